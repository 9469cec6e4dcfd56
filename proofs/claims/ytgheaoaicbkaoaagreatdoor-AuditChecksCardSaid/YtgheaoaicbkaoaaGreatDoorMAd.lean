/-
  Audits: the plain law: lists of open points.
-/
import Derived.Test.YtgheaoaicbkaoaaGreatDoorMAa
import Derived.Test.YtgheaoaicbkaoaaGreatDoorMMemP
namespace Go.Proofs.YtgheaoaicbkaoaaGreatDoor
open Go.RowKit AC
set_option linter.unusedVariables false
set_option linter.unusedSimpArgs false
/-- The points that are open ahead of point i: entered, and not closed. -/
def opn (kd : Nat → Int) (cl : Nat → Bool) (i : Nat) : List Nat := (List.range i).filter fun j => decide (kd j = 1) && !cl j
section
variable {kd nd ct : Nat → Int} {cl : Nat → Bool} {lv : Nat → Rat} {lower : Bool}
theorem opn_mem {i j : Nat} : j ∈ opn kd cl i ↔ j < i ∧ kd j = 1 ∧ cl j = false := by simp [opn]
theorem opn_enter {i : Nat} (h : kd i = 1) (hc : cl i = false) : opn kd cl (i + 1) = opn kd cl i ++ [i] := by
  simp [opn, List.range_succ, List.filter_append, h, hc]
theorem opn_skip {i : Nat} (h : kd i ≠ 1) : opn kd cl (i + 1) = opn kd cl i := by
  simp [opn, List.range_succ, List.filter_append, h]
theorem opn_close (i j : Nat) : opn kd (fun x => if x = j then true else cl x) i = (opn kd cl i).filter (· ≠ j) := by
  unfold opn
  rw [List.filter_filter]
  congr 1
  funext x
  by_cases h : x = j <;> simp [h]
theorem fnd_opn_none {x : Int} {i : Nat} (h : ∀ j, j < i → kd j = 1 → cl j = false → nd j ≠ x) : fnd nd x (opn kd cl i) = none :=
  fnd_none fun j hj => by
    obtain ⟨h1, h2, h3⟩ := opn_mem.1 hj
    exact h j h1 h2 h3
theorem opn_split {m : Nat} (h1 : kd m = 1) (h2 : cl m = false) : ∀ i, m < i → ∃ b, opn kd cl i = opn kd cl m ++ m :: b ∧ ∀ y ∈ b, m < y ∧ y ∈ opn kd cl i
  | 0, h => absurd h (by omega)
  | i + 1, h => by
    rcases Nat.lt_or_ge m i with h3 | h3
    · obtain ⟨b, e, hb⟩ := opn_split h1 h2 i h3
      by_cases hk : kd i = 1 ∧ cl i = false
      · refine ⟨b ++ [i], by rw [opn_enter hk.1 hk.2, e]; simp, fun y hy => ?_⟩
        rcases List.mem_append.1 hy with hy | hy
        · exact ⟨(hb y hy).1, by rw [opn_enter hk.1 hk.2]; exact List.mem_append.2 (.inl (hb y hy).2)⟩
        · simp at hy; subst hy; exact ⟨h3, opn_mem.2 ⟨by omega, hk.1, hk.2⟩⟩
      · have e2 : opn kd cl (i + 1) = opn kd cl i := by
          unfold opn
          rw [List.range_succ, List.filter_append, List.append_right_eq_self]
          by_cases h4 : kd i = 1
          · have : cl i = true := by
              cases h5 : cl i with
              | true => rfl
              | false => exact absurd ⟨h4, h5⟩ hk
            simp [h4, this]
          · simp [h4]
        rw [e2]
        exact ⟨b, e, hb⟩
    · obtain rfl : m = i := by omega
      exact ⟨[], opn_enter h1 h2, fun y hy => by cases hy⟩
theorem fnd_opn_some {x : Int} {i m : Nat} (hm : m < i) (h1 : kd m = 1) (h2 : cl m = false) (h3 : nd m = x) (h : ∀ j, m < j → j < i → kd j = 1 → cl j = false → nd j ≠ x) : fnd nd x (opn kd cl i) = some m := by
  obtain ⟨b, e, hb⟩ := opn_split h1 h2 i hm
  rw [e]
  refine fnd_some h3 (fun y hy => ?_) _
  obtain ⟨h4, h5⟩ := hb y hy
  obtain ⟨h6, h7, h8⟩ := opn_mem.1 h5
  exact h y h4 h6 h7 h8
/-- A list without repetitions, without its place k. -/
theorem filter_ne : ∀ {l : List Nat} {k j : Nat}, l.Nodup → l[k]? = some j → l.filter (· ≠ j) = l.eraseIdx k
  | [], k, j, _, h => by simp at h
  | x :: l, 0, j, hn, h => by
    simp at h
    subst h
    rw [List.nodup_cons] at hn
    rw [List.eraseIdx_cons_zero, List.filter_cons]
    simp only [ne_eq, not_true, decide_false, Bool.false_eq_true, if_false]
    exact List.filter_eq_self.2 fun y hy => by
      have : y ≠ x := fun e => hn.1 (e ▸ hy)
      simpa using this
  | x :: l, k + 1, j, hn, h => by
    rw [List.nodup_cons] at hn
    have hj : j ∈ l := List.mem_of_getElem? (by simpa using h)
    have hx : x ≠ j := fun e => hn.1 (e ▸ hj)
    rw [List.eraseIdx_cons_succ, List.filter_cons, filter_ne hn.2 (by simpa using h)]
    simp [hx]
theorem getD_at {l : List Nat} {k : Nat} (h : k < l.length) : l[k]? = some (l.getD k 0) := by
  rw [List.getD_eq_getElem?_getD, List.getElem?_eq_getElem h]
  rfl
theorem getD_erase (l : List Nat) (k j : Nat) : (l.eraseIdx k).getD j 0 = if j < k then l.getD j 0 else l.getD (j + 1) 0 := by
  rw [List.getD_eq_getElem?_getD, List.getElem?_eraseIdx]
  split <;> rw [List.getD_eq_getElem?_getD]
theorem over_none {i : Nat} {S : List Nat} (h : lower = true ∨ S = []) : over lower ct lv i S = false := by
  unfold over
  rcases h with rfl | rfl <;> simp
theorem over_some {i : Nat} {S : List Nat} (h : lower = false) (hS : S ≠ []) : over lower ct lv i S = decide (0 < cmpQ (mkRat (ct i) 1) (mn (fun j => lv (S.getD j 0)) (S.length - 1))) := by
  have hl : 0 < S.length := List.length_pos_iff.2 hS
  unfold over
  rw [h, Bool.eq_iff_iff]
  simp only [Bool.not_false, Bool.true_and, List.any_eq_true, decide_eq_true_eq]
  rw [mn_over]
  constructor
  · rintro ⟨x, hx, hc⟩
    obtain ⟨j, hj⟩ := List.getElem?_of_mem hx
    have hlt := (List.getElem?_eq_some_iff.1 hj).1
    refine ⟨j, by omega, ?_⟩
    rw [List.getD_eq_getElem?_getD, hj]
    exact hc
  · rintro ⟨j, hj, hc⟩
    have hlt : j < S.length := by omega
    exact ⟨_, List.mem_of_getElem? (getD_at hlt), hc⟩
theorem over_opn {i : Nat} (h : ∀ j, j < i → kd j = 1 → cl j = false → ¬ 0 < cmpQ (mkRat (ct i) 1) (lv j)) : over lower ct lv i (opn kd cl i) = false := by
  unfold over
  rw [Bool.and_eq_false_iff]
  refine .inr (List.any_eq_false.2 fun j hj => ?_)
  obtain ⟨h1, h2, h3⟩ := opn_mem.1 hj
  simpa using h j h1 h2 h3
theorem over_opn_at {i j : Nat} (hl : lower = false) (hj : j < i) (h1 : kd j = 1) (h2 : cl j = false) (h3 : 0 < cmpQ (mkRat (ct i) 1) (lv j)) : over lower ct lv i (opn kd cl i) = true := by
  unfold over
  rw [hl]
  simp only [Bool.not_false, Bool.true_and, List.any_eq_true, decide_eq_true_eq]
  exact ⟨j, opn_mem.2 ⟨hj, h1, h2⟩, h3⟩
section
variable {i : Nat} {S : List Nat}
theorem badP_over (h : over lower ct lv i S = true) : badP lower nd kd ct lv i S = true := by unfold badP; rw [h]; rfl
theorem badP_kind (h1 : kd i ≠ 1) (h2 : kd i ≠ 2) (h3 : kd i ≠ 3) : badP lower nd kd ct lv i S = true := by unfold badP; simp [h1, h2, h3]
theorem badP_none (h1 : kd i ≠ 1) (h : fnd nd (nd i) S = none) : badP lower nd kd ct lv i S = true := by unfold badP; simp [h1, h]
theorem badP_viol {j : Nat} (h1 : kd i = 2) (h : fnd nd (nd i) S = some j) (hv : viol lower (cmpQ (lv i) (lv j)) = true) : badP lower nd kd ct lv i S = true := by unfold badP; simp [h1, h, hv]
theorem badP_enter (h1 : kd i = 1) (h : over lower ct lv i S = false) : badP lower nd kd ct lv i S = false := by unfold badP; simp [h1, h]
theorem badP_cut {j : Nat} (h1 : kd i = 3) (h : over lower ct lv i S = false) (hf : fnd nd (nd i) S = some j) : badP lower nd kd ct lv i S = false := by unfold badP; simp [h1, h, hf]
theorem badP_leave {j : Nat} (h1 : kd i = 2) (h : over lower ct lv i S = false) (hf : fnd nd (nd i) S = some j) (hv : viol lower (cmpQ (lv i) (lv j)) = false) : badP lower nd kd ct lv i S = false := by unfold badP; simp [h1, h, hf, hv]
theorem nxtP_enter (h1 : kd i = 1) : nxtP nd kd i S = S ++ [i] := by unfold nxtP; rw [if_pos h1]
theorem nxtP_close {j : Nat} (h1 : kd i ≠ 1) (hf : fnd nd (nd i) S = some j) : nxtP nd kd i S = S.filter (· ≠ j) := by unfold nxtP; rw [if_neg h1, hf]
end
end
end Go.Proofs.YtgheaoaicbkaoaaGreatDoor

/-
  The walk of binomial's Differences.
-/
namespace Go.Proofs.YtgheaoaicbkaoaaGreatDoor
open Go.RowKit AC
set_option linter.unusedVariables false
set_option linter.unusedSimpArgs false
set_option maxRecDepth 100000

/-- The differences of a list, i times. -/
def dif (r : Nat → Rat) : Nat → Nat → Rat
  | 0, j => r j
  | i + 1, j => dif r i (j + 1) - dif r i j
/-- How many limbs the differences may have. -/
def KD (K : Nat) : Nat → Nat
  | 0 => K
  | i + 1 => KD K i + KD K i + 3
theorem KD_mono (K : Nat) : ∀ {i j}, i ≤ j → KD K i ≤ KD K j
  | i, 0, h => by obtain rfl : i = 0 := by omega
                  exact Nat.le_refl _
  | i, j + 1, h => by
    rcases Nat.lt_or_ge i (j + 1) with h1 | h1
    · have := KD_mono K (i := i) (j := j) (by omega)
      show _ ≤ KD K j + KD K j + 3
      omega
    · obtain rfl : i = j + 1 := by omega
      exact Nat.le_refl _

theorem RatsP.part {w : World} {S : Nat → Prop} {b off m c K : Nat} {r : Nat → Rat} (h : RatsP w S (.slice (some ⟨b, off, none⟩) (m + 1) c) (m + 1) K r) (c' : Nat) (h1 : m ≤ c') (h2 : c' ≤ c) :
    RatsP w S (.slice (some ⟨b, off, none⟩) m c') m K r := by
  obtain ⟨A', c0, e, h3, h4, h5⟩ := h
  injection e with e1 e2 e3
  subst e3
  obtain ⟨b', off', e4, h6, h7, h8⟩ := h5 (by omega)
  subst e1
  injection e4 with e4
  injection e4 with e5 e6
  subst e5
  subst e6
  exact ⟨_, c', rfl, h1, by omega, fun _ => ⟨b, off, rfl, h6, h7, fun i hi => h8 i (by omega)⟩⟩
theorem RatsP.rest {w : World} {S : Nat → Prop} {b off m c K : Nat} {r : Nat → Rat} (h : RatsP w S (.slice (some ⟨b, off, none⟩) (m + 1) c) (m + 1) K r) (A : Option Addr) (c' : Nat) (h1 : m ≤ c') (h2 : c' ≤ c) (hA : 0 < m → A = some ⟨b, off + 3, none⟩) :
    RatsP w S (.slice A m c') m K (fun j => r (j + 1)) := by
  obtain ⟨A', c0, e, h3, h4, h5⟩ := h
  injection e with e1 e2 e3
  subst e3
  obtain ⟨b', off', e4, h6, h7, h8⟩ := h5 (by omega)
  subst e1
  injection e4 with e4
  injection e4 with e5 e6
  subst e5
  subst e6
  refine ⟨_, c', rfl, h1, by omega, fun h0 => ⟨b, off + 3, hA h0, h6, h7, fun i hi => ?_⟩⟩
  obtain ⟨s, An, kn, cn, Ad, kd, cd, g1, g2, g3, g4⟩ := h8 (i + 1) (by omega)
  have e7 : off + (i + 1) * 3 = off + 3 + i * 3 := by omega
  rw [e7] at g1 g2 g3
  exact ⟨s, An, kn, cn, Ad, kd, cd, g1, g2, g3, g4⟩
theorem RatsP.first {w : World} {S : Nat → Prop} {A : Option Addr} {m c K : Nat} {r : Nat → Rat} (h : RatsP w S (.slice A (m + 1) c) (m + 1) K r) :
    ∃ b off s An kn cn Ad kd cd, A = some ⟨b, off, none⟩ ∧ S b ∧ b < w.heap.size ∧ m + 1 ≤ c ∧ c ≤ 9223372036854775807 ∧ w.cell? ⟨b, off, none⟩ = some (.bool s) ∧ w.cell? ⟨b, off + 1, none⟩ = some (.slice An kn cn) ∧ w.cell? ⟨b, off + 2, none⟩ = some (.slice Ad kd cd) ∧
      RatVP w S (.agg #[.bool s, .slice An kn cn, .slice Ad kd cd]) K (r 0) := by
  obtain ⟨A', c0, e, h3, h4, h5⟩ := h
  injection e with e1 e2 e3
  subst e3
  subst e1
  obtain ⟨b, off, rfl, h6, h7, h8⟩ := h5 (by omega)
  obtain ⟨s, An, kn, cn, Ad, kd, cd, g1, g2, g3, g4⟩ := h8 0 (by omega)
  unfold maxLen at h4
  rw [Nat.zero_mul, Nat.add_zero] at g1 g2 g3
  exact ⟨b, off, s, An, kn, cn, Ad, kd, cd, rfl, h6, h7, h3, by omega, g1, g2, g3, g4⟩

theorem RatsV.lowr {w : World} {lo lo' : Nat} {v : Value} {k K : Nat} {r : Nat → Rat} (h : RatsV w lo v k K r) (hl : lo' ≤ lo) : RatsV w lo' v k K r :=
  RatsP.toV (h.toP.keep (Nat.le_refl _) fun _ hb _ => ⟨rfl, Nat.le_trans hl hb⟩)

/-- The loop of Differences. -/
def DfRel (w : World) (b k K : Nat) (r : Nat → Rat) (iv rv : Value) (wr : World) : Prop :=
  ∃ i : Nat, i ≤ k ∧ iv = .int .i64 i ∧ Hid (RatsP wr (· ≠ b) rv (k - i) (KD K i) (dif r i)) ∧ Hid (RowN wr b k i (KD K k) (fun j => dif r j 0)) ∧ Below w.heap.size w wr

end Go.Proofs.YtgheaoaicbkaoaaGreatDoor

/-
  The walks of fit's Fit and Above.
-/
namespace Go.Proofs.YtgheaoaicbkaoaaGreatDoor
open Go.RowKit AC
set_option linter.unusedVariables false
set_option linter.unusedSimpArgs false

/-- What Above returns. -/
def AboveR (w : World) (n k : Nat) (p r : Nat → Rat) (e : Ending) (w' : World) : Prop :=
  ∃ (i : Nat) (t : Bool), e = .returned (.tuple #[.int .i64 i, .bool t]) ∧ (t = true → i < k ∧ cmpQ (evalQ p i n) (r i) < 0) ∧ (∀ j, j < (if t then i else k) → 0 ≤ cmpQ (evalQ p j n) (r j)) ∧ Below w.heap.size w w'
theorem AboveR.no {w w' : World} {n k : Nat} {p r : Nat → Rat} (h : ∀ j, j < k → 0 ≤ cmpQ (evalQ p j n) (r j)) (hb : Below w.heap.size w w') : AboveR w n k p r (.returned (.tuple #[.int .i64 0, .bool false])) w' :=
  ⟨0, false, rfl, (fun h => by cases h), h, hb⟩
theorem AboveR.yes {w w' : World} {n k : Nat} {p r : Nat → Rat} {i : Nat} (h : ∀ j, j < i → 0 ≤ cmpQ (evalQ p j n) (r j)) (hi : i < k) (hl : cmpQ (evalQ p i n) (r i) < 0) (hb : Below w.heap.size w w') : AboveR w n k p r (.returned (.tuple #[.int .i64 i, .bool true])) w' :=
  ⟨i, true, rfl, fun _ => ⟨hi, hl⟩, h, hb⟩

end Go.Proofs.YtgheaoaicbkaoaaGreatDoor

/-
  The walks of the reference's natural numbers: cut, nat, limbs, natCmp.
-/
namespace Go.Proofs.YtgheaoaicbkaoaaGreatDoor
open Go.RowKit AC
set_option linter.unusedVariables false
set_option linter.unusedSimpArgs false

set_option maxHeartbeats 800000 in
theorem cut_any (w : World) (lo : Nat) (v : Value) (k N : Nat) (hv : Limbs w lo v k (dg N)) (hN : N < B ^ k) (hk : k ≤ 4294967296000) :
    Calls Tryz.prog 121 #[v] w (Ret fun v' w' => NatR w' w.heap.size v' N ∧ Below w.heap.size w w') := by
  obtain ⟨hlt, A, c, rfl, hkc, hcm, hb⟩ := hv
  have HN := Lib.hid hN
  have HB := Lib.hid hb
  have HL := Lib.hid hlt
  unfold maxLen at hcm
  clear hN hb hlt
  go_enter Tryz.func121, Tryz.ntmps121
  go_wp2
  go_loop [3] (fun t => ∃ j : Nat, j ≤ k ∧ t = .int .i64 j ∧ Hid (N < B ^ j)) (fun t => (intOf t).toNat)
  case atStart => exact ⟨k, Nat.le_refl _, rfl, HN⟩
  case round =>
    obtain ⟨j, hj, rfl, hNj⟩ := hrel
    rcases j with _ | j
    · have HS : Hid (Limbs w lo (.slice A 0 c) 0 (dg N)) := ⟨fun i hi => absurd hi (by omega), A, c, rfl, by omega, by unfold maxLen; omega, fun h => absurd h (by omega)⟩
      go_wp2_with (at_builtin; refine wpList_copyNew _ rfl _ _ 25 rfl w.heap.size 120 Tryz.underlying25 info_u32 (by rfl) _ 0 c (dg N) (by rfl) lo HS.out w (Below.refl _ _) (Nat.le_refl _) (by omega) ?_; intro v1 w1 hown1 hb1)
      go_ret
      have h0 : N = 0 := by simpa using hNj.out
      exact ⟨v1, rfl, NatR.of (hown1.limbs fun i _ => Nat.lt_trans (dg_lt _ i) (by decide)) (by rw [h0, dl_zero]), hb1⟩
    · obtain ⟨b, off, rfl, hlb, hbw, hcell⟩ := HB.out (by omega)
      have hcl := hcell j (by omega)
      have HC := Lib.hid hcell
      clear hcell
      by_cases h0 : dg N j = 0
      · have h1 : (((dg N j : Nat) : Int) == 0) = true := by rw [h0]; rfl
        have H0 := Lib.hid h0
        clear h0
        go_wp2
        go_round
        case rel => exact ⟨j, by omega, rfl, low_of_zero hNj.out H0.out⟩
        case measure => simp [intOf]
      · have h1 : (((dg N j : Nat) : Int) == 0) = false := by rw [beq_eq_false_iff_ne]; omega
        have H0 := Lib.hid h0
        clear h0
        have HS : Hid (Limbs w lo (.slice (some ⟨b, off, none⟩) (j + 1) c) (j + 1) (dg N)) := ⟨fun i hi => HL.out i (by omega), _, c, rfl, by omega, by unfold maxLen; omega, fun _ => ⟨b, off, rfl, hlb, hbw, fun i hi => HC.out i (by omega)⟩⟩
        go_wp2_with (at_builtin; refine wpList_copyNew _ rfl _ _ 25 rfl w.heap.size 120 Tryz.underlying25 info_u32 (by rfl) _ (j + 1) c (dg N) (by rfl) lo HS.out w (Below.refl _ _) (Nat.le_refl _) (by omega) ?_; intro v1 w1 hown1 hb1)
        go_ret
        have e := dl_of_digits (k := j + 1) hNj.out (.inr (by simpa using H0.out))
        exact ⟨v1, rfl, NatR.of (hown1.limbs fun i _ => Nat.lt_trans (dg_lt _ i) (by decide)) e, hb1⟩

set_option maxHeartbeats 800000 in
theorem nat_any (w : World) (lo : Nat) (v : Value) (k : Nat) (f : Nat → Nat) (hv : Limbs w lo v k f) (hk : k ≤ 4294967296) :
    Calls Tryz.prog 69 #[v] w (Ret fun v' w' => NatR w' w.heap.size v' (vs f k) ∧ Below w.heap.size w w') := by
  obtain ⟨hlt, A, c, rfl, hkc, hcm, hb⟩ := hv
  have HC := Lib.hid (carry_small f k hlt)
  have HB := Lib.hid hb
  have HL := Lib.hid hlt
  obtain ⟨N, HN⟩ : ∃ N, Hid (N = vs f k) := ⟨_, rfl⟩
  unfold maxLen at hcm
  clear hb hlt
  go_enter Tryz.func69, Tryz.ntmps69
  go_wp2
  go_loopw [3, 4, 5] (fun o cv i wr => ∃ j c : Nat, j ≤ k ∧ c ≤ 4 ∧ i = .int .i64 j ∧ cv = .int .u64 c ∧ Hid (c = vs f j / B ^ j) ∧ Own wr w.heap.size 120 o j (dg N) ∧ Below w.heap.size w wr) (fun _ _ i _ => k - (intOf i).toNat)
  case atStart => exact ⟨0, 0, by omega, by omega, rfl, rfl, by simp [vs, Hid], World.ownsRow_nil _ _ _ _, Below.refl _ _⟩
  case round =>
    obtain ⟨j, c, hj, hc, rfl, rfl, hcv, hown, hbw⟩ := hrel
    by_cases hlt : j < k
    · obtain ⟨b, off, rfl, hlb, hbb, hcell⟩ := HB.out (by omega)
      have hcl := (hbw.cell (p := ⟨b, off + j, none⟩) hbb).trans (hcell j hlt)
      have hfj := HL.out j hlt
      have hdg : Hid ((c + f j) % 1000000000 = dg N j) := by
        have h1 := dg_vs_any f hlt
        rw [← hcv.out, ← HN.out, B_eq, Nat.add_comm] at h1
        exact h1.symm
      have hcn : Hid ((c + f j) / 1000000000 = vs f (j + 1) / B ^ (j + 1)) := by
        have h1 := vs_div_succ f j
        rw [← hcv.out, Nat.add_comm (f j)] at h1
        exact h1.symm
      have hc4 : (c + f j) / 1000000000 ≤ 4 := by omega
      clear hcell
      go_wp2_with (at_builtin; refine wpList_push wr rfl _ _ 25 rfl w.heap.size 120 Tryz.underlying25 info_u32 _ j (dg N) (by rfl) hown (by rfl) w hbw hbw.size (by omega) ?c1 ?_)
      case c1 => rw [← hdg.out]; omega
      intro v1 w1 hown1 hb1
      go_wp2
      go_roundw
      case rel => exact ⟨j + 1, (c + f j) / 1000000000, by omega, hc4, by go_num, by go_num, hcn, hown1, hb1⟩
      case measure => simp [intOf]; omega
    · obtain rfl : j = k := by omega
      have hNv : Hid (N = vs f j) := HN
      have hdv : Hid (c = N / B ^ j) := by rw [hcv.out, HN.out]; rfl
      by_cases hc0 : 0 < c
      · have hcb : Hid (dg N j = c) := by
          show N / B ^ j % B = c
          rw [← hdv.out, B_eq]
          omega
        have hNj : Hid (N < B ^ (j + 1)) := by
          show N < B ^ (j + 1)
          rw [Nat.pow_succ, Nat.mul_comm, ← Nat.div_lt_iff_lt_mul (Bp_pos j), ← hdv.out, B_eq]
          omega
        go_wp2_with (at_builtin; refine wpList_push wr rfl _ _ 25 rfl w.heap.size 120 Tryz.underlying25 info_u32 _ j (dg N) (by rfl) hown (by rfl) w hbw hbw.size (by omega) ?c1 ?_)
        case c1 => rw [hcb.out]
        intro v1 w1 hown1 hb1
        go_wp2_with fail
        refine (cut_any _ _ _ _ _ (hown1.limbs fun i _ => Nat.lt_trans (dg_lt N i) (by decide)) hNj.out (by omega)).mono ?_
        rintro e w' ⟨v', rfl, hnat, hb2⟩
        go_wp2
        go_ret
        exact ⟨v', rfl, by rw [← HN.out]; exact hnat.lower hb1.size, hb1.trans (hb2.mono hb1.size)⟩
      · have hNj : Hid (N < B ^ j) := by
          have h0 : N / B ^ j = 0 := by rw [← hdv.out]; omega
          exact (Nat.div_eq_zero_iff_lt (Bp_pos j)).1 h0
        go_wp2_with fail
        refine (cut_any _ _ _ _ _ (hown.limbs fun i _ => Nat.lt_trans (dg_lt N i) (by decide)) hNj.out (by omega)).mono ?_
        rintro e w' ⟨v', rfl, hnat, hb2⟩
        go_wp2
        go_ret
        exact ⟨v', rfl, by rw [← HN.out]; exact hnat.lower hbw.size, hbw.trans (hb2.mono hbw.size)⟩

set_option maxHeartbeats 800000 in
theorem limbs_any (w : World) (n : Nat) (hn : n < 18446744073709551616) :
    Calls Tryz.prog 36 #[.int .u64 n] w (Ret fun v' w' => NatR w' w.heap.size v' n ∧ Below w.heap.size w w') := by
  have hd3 : dl n ≤ 3 := dl_le (Nat.lt_trans hn (by decide))
  obtain ⟨N, HN⟩ : ∃ N, Hid (N = n) := ⟨_, rfl⟩
  go_enter Tryz.func36, Tryz.ntmps36
  go_wp2
  go_loopw [0, 3] (fun nv o wr => ∃ j m : Nat, j ≤ 3 ∧ m ≤ n ∧ nv = .int .u64 m ∧ Hid (m = N / B ^ j) ∧ Hid (j ≤ dl N) ∧ Own wr w.heap.size 120 o j (dg N) ∧ Below w.heap.size w wr) (fun nv _ _ => (intOf nv).toNat)
  case atStart => exact ⟨0, n, by omega, by omega, rfl, by simp [Hid, HN.out], Nat.zero_le _, World.ownsRow_nil _ _ _ _, Below.refl _ _⟩
  case round =>
    obtain ⟨j, m, hj, hm, rfl, hmv, hjd, hown, hbw⟩ := hrel
    by_cases h0 : 0 < m
    · have hdg : Hid (m % 1000000000 = dg N j) := by show _ = N / B ^ j % B; rw [← hmv.out, B_eq]
      have hnx : Hid (m / 1000000000 = N / B ^ (j + 1)) := by show _ = _; rw [div_pow_succ, ← hmv.out, B_eq]
      have hjl : Hid (j + 1 ≤ dl N) := by
        refine dl_gt ?_
        have h1 := hmv.out
        rcases Nat.lt_or_ge N (B ^ j) with h | h
        · rw [Nat.div_eq_of_lt h] at h1; omega
        · exact h
      have hj3 : j + 1 ≤ 3 := by have := hjl.out; rw [HN.out] at this; omega
      go_wp2_with (at_builtin; refine wpList_push wr rfl _ _ 25 rfl w.heap.size 120 Tryz.underlying25 info_u32 _ j (dg N) (by rfl) hown (by rfl) w hbw hbw.size (by omega) ?c1 ?_)
      case c1 => rw [← hdg.out]; omega
      intro v1 w1 hown1 hb1
      go_wp2
      go_roundw
      case rel => exact ⟨j + 1, m / 1000000000, hj3, by omega, by go_num, hnx, hjl, hown1, hb1⟩
      case measure => simp [intOf]; omega
    · obtain rfl : m = 0 := by omega
      go_wp2
      go_ret
      have hlt : N < B ^ j := (Nat.div_eq_zero_iff_lt (Bp_pos j)).1 hmv.out.symm
      have e : dl N = j := Nat.le_antisymm (dl_le hlt) hjd.out
      refine ⟨_, rfl, ?_, hbw⟩
      rw [← HN.out]
      exact NatR.of (hown.limbs fun i _ => Nat.lt_trans (dg_lt _ i) (by decide)) e

end Go.Proofs.YtgheaoaicbkaoaaGreatDoor

