/-
  The walks of fit's Fit and Above.
-/
import Derived.Test.YtdbiedpdibjdlaaGreatMWalkW
namespace Go.Proofs.YtdbiedpdibjdlaaGreat
open Go.RowKit AC
set_option linter.unusedVariables false
set_option linter.unusedSimpArgs false

set_option maxHeartbeats 2000000 in
theorem Fit_yes (w : World) (lo : Nat) (v : Value) (k K : Nat) (r : Nat → Rat) (d : Int) (hv : RatsV w lo v k K r) (hk : k ≤ 33) (hK : KD K k ≤ 1900000000) (hd : ((cutQ (fun j => dif r j 0) k : Nat) : Int) ≤ d + 1) :
    Calls Tryz.prog 9 #[v, .int .i64 d] w (fun e w' => ∃ v2, e = .returned (.tuple #[v2, .bool true]) ∧ RatsV w' w.heap.size v2 (cutQ (fun j => dif r j 0) k) (KD K k + 1) (fun j => dif r j 0) ∧ Below w.heap.size w w') := by
  have HV := Lib.hid hv
  obtain ⟨A, c, rfl, hkc, hcm⟩ := hv.form
  have hcl := cutQ_le (fun j => dif r j 0) k
  obtain ⟨n, hn⟩ : ∃ n, n = cutQ (fun j => dif r j 0) k := ⟨_, rfl⟩
  rw [← hn] at hd hcl ⊢
  have HN := Lib.hid hn
  clear hv hn
  go_enter Tryz.func9, Tryz.ntmps9
  go_wp2_with fail
  refine (Differences_any _ lo _ k K r HV.out hk hK).mono ?_
  rintro e w1 ⟨v1, rfl, hr1, hb1⟩
  rw [← HN.out] at hr1
  have HR := Lib.hid hr1
  obtain ⟨A1, c1, rfl, hkc1, hcm1⟩ := hr1.form
  clear hr1
  go_wp2
  go_ret2
  exact ⟨_, rfl, HR.out, hb1⟩

set_option maxHeartbeats 2000000 in
theorem Fit_no (w : World) (lo : Nat) (v : Value) (k K : Nat) (r : Nat → Rat) (d : Int) (hv : RatsV w lo v k K r) (hk : k ≤ 33) (hK : KD K k ≤ 1900000000) (hd : d + 1 < ((cutQ (fun j => dif r j 0) k : Nat) : Int)) :
    Calls Tryz.prog 9 #[v, .int .i64 d] w (fun e w' => e = .returned (.tuple #[.slice none 0 0, .bool false]) ∧ Below w.heap.size w w') := by
  have HV := Lib.hid hv
  obtain ⟨A, c, rfl, hkc, hcm⟩ := hv.form
  have hcl := cutQ_le (fun j => dif r j 0) k
  obtain ⟨n, hn⟩ : ∃ n, n = cutQ (fun j => dif r j 0) k := ⟨_, rfl⟩
  rw [← hn] at hd hcl
  have HN := Lib.hid hn
  clear hv hn
  go_enter Tryz.func9, Tryz.ntmps9
  go_wp2_with fail
  refine (Differences_any _ lo _ k K r HV.out hk hK).mono ?_
  rintro e w1 ⟨v1, rfl, hr1, hb1⟩
  rw [← HN.out] at hr1
  have HR := Lib.hid hr1
  obtain ⟨A1, c1, rfl, hkc1, hcm1⟩ := hr1.form
  clear hr1
  go_wp2
  go_ret2
  exact ⟨rfl, hb1⟩

/-- What Above returns. -/
def AboveR (w : World) (n k : Nat) (p r : Nat → Rat) (e : Ending) (w' : World) : Prop :=
  ∃ (i : Nat) (t : Bool), e = .returned (.tuple #[.int .i64 i, .bool t]) ∧ (t = true → i < k ∧ cmpQ (evalQ p i n) (r i) < 0) ∧ (∀ j, j < (if t then i else k) → 0 ≤ cmpQ (evalQ p j n) (r j)) ∧ Below w.heap.size w w'
theorem AboveR.no {w w' : World} {n k : Nat} {p r : Nat → Rat} (h : ∀ j, j < k → 0 ≤ cmpQ (evalQ p j n) (r j)) (hb : Below w.heap.size w w') : AboveR w n k p r (.returned (.tuple #[.int .i64 0, .bool false])) w' :=
  ⟨0, false, rfl, (fun h => by cases h), h, hb⟩
theorem AboveR.yes {w w' : World} {n k : Nat} {p r : Nat → Rat} {i : Nat} (h : ∀ j, j < i → 0 ≤ cmpQ (evalQ p j n) (r j)) (hi : i < k) (hl : cmpQ (evalQ p i n) (r i) < 0) (hb : Below w.heap.size w w') : AboveR w n k p r (.returned (.tuple #[.int .i64 i, .bool true])) w' :=
  ⟨i, true, rfl, fun _ => ⟨hi, hl⟩, h, hb⟩

set_option maxHeartbeats 2000000 in
theorem Above_any (w : World) (lo lo' : Nat) (v v' : Value) (n k K K' : Nat) (p r : Nat → Rat) (hv : RatsV w lo v n K p) (hv' : RatsV w lo' v' k K' r) (hn : n ≤ 33) (hk : k ≤ 33) (hK : K ≤ 10000000) (hK' : K' ≤ 1000000000) :
    Calls Tryz.prog 11 #[v, v'] w (AboveR w n k p r) := by
  have HV := Lib.hid hv
  have HV' := Lib.hid hv'
  obtain ⟨A, c, rfl, hkc, hcm⟩ := hv.form
  obtain ⟨A', c', rfl, hkc', hcm'⟩ := hv'.form
  clear hv hv'
  go_enter Tryz.func11, Tryz.ntmps11
  go_wp2
  go_loopw [20] (fun iv wr => ∃ i : Nat, i ≤ k ∧ iv = .int .i64 i ∧ Hid (∀ j, j < i → 0 ≤ cmpQ (evalQ p j n) (r j)) ∧ Below w.heap.size w wr) (fun iv _ => k - (intOf iv).toNat)
  case atStart => exact ⟨0, by omega, rfl, fun j hj => absurd hj (by omega), Below.refl _ _⟩
  case round =>
    obtain ⟨i, hi, rfl, hno, hbw⟩ := hrel
    by_cases hlt : i < k
    · obtain ⟨ba, off, s, An, kn, cn, Ad, kd, cd, rfl, hbb, g1, g2, g3, g4⟩ := HV'.out.at_ hbw (i := i) (by omega)
      have HE := Lib.hid g4
      clear g4
      have hws := hbw.size
      have hz1 : ba < wr.heap.size := by omega
      go_wp2_with fail
      refine (Eval_any _ lo _ n K p i ((HV.out.below hbw).below (bel1 _ _)) (by omega) hn hK).mono ?_
      rintro e w1 ⟨v1, rfl, hr1, hb1⟩
      have hB1 := Lib.hid ((Bk.new wr 46 _).below hb1 (by simp))
      obtain ⟨hcB, hfB, hzB⟩ := hB1.out.facts
      obtain ⟨q, hq⟩ : ∃ q, Hid (q = evalQ p i n) := ⟨_, rfl⟩
      rw [← hq.out] at hr1
      have hsz : sz q ≤ 1 + 33 * (K + 303) := by
        rw [hq.out]
        have h3 := sz_eval (r := p) (n := i) (K := K + 1) (by omega) (by omega) n (by omega) (fun j hj => HV.out.size hj)
        have h4 : n * (K + 1 + 302) ≤ 33 * (K + 1 + 302) := Nat.mul_le_mul (by omega) (Nat.le_refl _)
        have h5 : K + 1 + 302 = K + 303 := by omega
        rw [h5] at h3 h4
        exact Nat.le_trans h3 (Nat.add_le_add_left h4 1)
      have HR1 := Lib.hid hr1
      obtain ⟨A1, c1, A2, c2, rfl, _, _⟩ := FracR.form hr1
      have hbw1 := hbw.trans (((bel1 wr _).trans (hb1.mono (by simp))).mono hws)
      have HE1 := Lib.hid ((HE.out.below (bel1 _ (.cells #[.bool s, .slice An kn cn, .slice Ad kd cd] 46))).below hb1)
      clear hr1 hb1
      go_wp2_with fail
      refine (Cmp_any _ wr.heap.size lo' _ _ (1 + 33 * (K + 303)) K' q (r i) ((RatR.toV (HR1.out.lower (by simp)) hsz).below (bel1 _ _)) (HE1.out.below (bel1 _ _)) (by omega)).mono ?_
      rintro e w2 ⟨rfl, hb2⟩
      have hbw2 := hbw1.trans (((bel1 w1 _).trans (hb2.mono (by simp))).mono hbw1.size)
      clear hb2
      have hzq : Hid (cmpQ q (r i) = cmpQ (evalQ p i n) (r i)) := by
        show _ = _
        rw [hq.out]
      obtain ⟨z, hz⟩ : ∃ z, z = cmpQ q (r i) := ⟨_, rfl⟩
      rw [← hz] at hzq ⊢
      clear hz hsz
      by_cases hneg : z < 0
      · go_wp2
        go_ret2
        exact AboveR.yes hno.out hlt (by rw [← hzq.out]; exact hneg) hbw2
      · go_wp2
        go_roundw
        case rel =>
          refine ⟨i + 1, by omega, by go_num, fun j hj => ?_, hbw2⟩
          rcases Nat.lt_or_ge j i with h | h
          · exact hno.out j h
          · obtain rfl : j = i := by omega
            rw [← hzq.out]
            omega
        case measure => simp [intOf]; omega
    · obtain rfl : i = k := by omega
      go_wp2
      go_ret2
      exact AboveR.no hno.out hbw

end Go.Proofs.YtdbiedpdibjdlaaGreat

/-
  The walks of the reference's natural numbers: cut, nat, limbs, natCmp.
-/
namespace Go.Proofs.YtdbiedpdibjdlaaGreat
open Go.RowKit AC
set_option linter.unusedVariables false
set_option linter.unusedSimpArgs false

set_option maxHeartbeats 800000 in
theorem cut_any (w : World) (lo : Nat) (v : Value) (k N : Nat) (hv : Limbs w lo v k (dg N)) (hN : N < B ^ k) (hk : k ≤ 4294967296000) :
    Calls Tryz.prog 89 #[v] w (Ret fun v' w' => NatR w' w.heap.size v' N ∧ Below w.heap.size w w') := by
  obtain ⟨hlt, A, c, rfl, hkc, hcm, hb⟩ := hv
  have HN := Lib.hid hN
  have HB := Lib.hid hb
  have HL := Lib.hid hlt
  unfold maxLen at hcm
  clear hN hb hlt
  go_enter Tryz.func89, Tryz.ntmps89
  go_wp2
  go_loop [3] (fun t => ∃ j : Nat, j ≤ k ∧ t = .int .i64 j ∧ Hid (N < B ^ j)) (fun t => (intOf t).toNat)
  case atStart => exact ⟨k, Nat.le_refl _, rfl, HN⟩
  case round =>
    obtain ⟨j, hj, rfl, hNj⟩ := hrel
    rcases j with _ | j
    · have HS : Hid (Limbs w lo (.slice A 0 c) 0 (dg N)) := ⟨fun i hi => absurd hi (by omega), A, c, rfl, by omega, by unfold maxLen; omega, fun h => absurd h (by omega)⟩
      go_wp2_with (at_builtin; refine wpList_copyNew _ rfl _ _ 44 rfl w.heap.size 80 Tryz.underlying44 info_u32 (by rfl) _ 0 c (dg N) (by rfl) lo HS.out w (Below.refl _ _) (Nat.le_refl _) (by omega) ?_; intro v1 w1 hown1 hb1)
      go_ret
      have h0 : N = 0 := by simpa using hNj.out
      exact ⟨v1, rfl, NatR.of (hown1.limbs fun i _ => Nat.lt_trans (dg_lt _ i) (by decide)) (by rw [h0, dl_zero]), hb1⟩
    · obtain ⟨b, off, rfl, hlb, hbw, hcell⟩ := HB.out (by omega)
      have hcl := hcell j (by omega)
      have HC := Lib.hid hcell
      clear hcell
      by_cases h0 : dg N j = 0
      · have h1 : (((dg N j : Nat) : Int) == 0) = true := by rw [h0]; rfl
        have H0 := Lib.hid h0
        clear h0
        go_wp2
        go_round
        case rel => exact ⟨j, by omega, rfl, low_of_zero hNj.out H0.out⟩
        case measure => simp [intOf]
      · have h1 : (((dg N j : Nat) : Int) == 0) = false := by rw [beq_eq_false_iff_ne]; omega
        have H0 := Lib.hid h0
        clear h0
        have HS : Hid (Limbs w lo (.slice (some ⟨b, off, none⟩) (j + 1) c) (j + 1) (dg N)) := ⟨fun i hi => HL.out i (by omega), _, c, rfl, by omega, by unfold maxLen; omega, fun _ => ⟨b, off, rfl, hlb, hbw, fun i hi => HC.out i (by omega)⟩⟩
        go_wp2_with (at_builtin; refine wpList_copyNew _ rfl _ _ 44 rfl w.heap.size 80 Tryz.underlying44 info_u32 (by rfl) _ (j + 1) c (dg N) (by rfl) lo HS.out w (Below.refl _ _) (Nat.le_refl _) (by omega) ?_; intro v1 w1 hown1 hb1)
        go_ret
        have e := dl_of_digits (k := j + 1) hNj.out (.inr (by simpa using H0.out))
        exact ⟨v1, rfl, NatR.of (hown1.limbs fun i _ => Nat.lt_trans (dg_lt _ i) (by decide)) e, hb1⟩

set_option maxHeartbeats 800000 in
theorem nat_any (w : World) (lo : Nat) (v : Value) (k : Nat) (f : Nat → Nat) (hv : Limbs w lo v k f) (hk : k ≤ 4294967296) :
    Calls Tryz.prog 63 #[v] w (Ret fun v' w' => NatR w' w.heap.size v' (vs f k) ∧ Below w.heap.size w w') := by
  obtain ⟨hlt, A, c, rfl, hkc, hcm, hb⟩ := hv
  have HC := Lib.hid (carry_small f k hlt)
  have HB := Lib.hid hb
  have HL := Lib.hid hlt
  obtain ⟨N, HN⟩ : ∃ N, Hid (N = vs f k) := ⟨_, rfl⟩
  unfold maxLen at hcm
  clear hb hlt
  go_enter Tryz.func63, Tryz.ntmps63
  go_wp2
  go_loopw [3, 4, 5] (fun o cv i wr => ∃ j c : Nat, j ≤ k ∧ c ≤ 4 ∧ i = .int .i64 j ∧ cv = .int .u64 c ∧ Hid (c = vs f j / B ^ j) ∧ Own wr w.heap.size 80 o j (dg N) ∧ Below w.heap.size w wr) (fun _ _ i _ => k - (intOf i).toNat)
  case atStart => exact ⟨0, 0, by omega, by omega, rfl, rfl, by simp [vs, Hid], World.ownsRow_nil _ _ _ _, Below.refl _ _⟩
  case round =>
    obtain ⟨j, c, hj, hc, rfl, rfl, hcv, hown, hbw⟩ := hrel
    by_cases hlt : j < k
    · obtain ⟨b, off, rfl, hlb, hbb, hcell⟩ := HB.out (by omega)
      have hcl := (hbw.cell (p := ⟨b, off + j, none⟩) hbb).trans (hcell j hlt)
      have hfj := HL.out j hlt
      have hdg : Hid ((c + f j) % 1000000000 = dg N j) := by
        have h1 := dg_vs_any f hlt
        rw [← hcv.out, ← HN.out, B_eq, Nat.add_comm] at h1
        exact h1.symm
      have hcn : Hid ((c + f j) / 1000000000 = vs f (j + 1) / B ^ (j + 1)) := by
        have h1 := vs_div_succ f j
        rw [← hcv.out, Nat.add_comm (f j)] at h1
        exact h1.symm
      have hc4 : (c + f j) / 1000000000 ≤ 4 := by omega
      clear hcell
      go_wp2_with (at_builtin; refine wpList_push wr rfl _ _ 44 rfl w.heap.size 80 Tryz.underlying44 info_u32 _ j (dg N) (by rfl) hown (by rfl) w hbw hbw.size (by omega) ?c1 ?_)
      case c1 => rw [← hdg.out]; omega
      intro v1 w1 hown1 hb1
      go_wp2
      go_roundw
      case rel => exact ⟨j + 1, (c + f j) / 1000000000, by omega, hc4, by go_num, by go_num, hcn, hown1, hb1⟩
      case measure => simp [intOf]; omega
    · obtain rfl : j = k := by omega
      have hNv : Hid (N = vs f j) := HN
      have hdv : Hid (c = N / B ^ j) := by rw [hcv.out, HN.out]; rfl
      by_cases hc0 : 0 < c
      · have hcb : Hid (dg N j = c) := by
          show N / B ^ j % B = c
          rw [← hdv.out, B_eq]
          omega
        have hNj : Hid (N < B ^ (j + 1)) := by
          show N < B ^ (j + 1)
          rw [Nat.pow_succ, Nat.mul_comm, ← Nat.div_lt_iff_lt_mul (Bp_pos j), ← hdv.out, B_eq]
          omega
        go_wp2_with (at_builtin; refine wpList_push wr rfl _ _ 44 rfl w.heap.size 80 Tryz.underlying44 info_u32 _ j (dg N) (by rfl) hown (by rfl) w hbw hbw.size (by omega) ?c1 ?_)
        case c1 => rw [hcb.out]
        intro v1 w1 hown1 hb1
        go_wp2_with fail
        refine (cut_any _ _ _ _ _ (hown1.limbs fun i _ => Nat.lt_trans (dg_lt N i) (by decide)) hNj.out (by omega)).mono ?_
        rintro e w' ⟨v', rfl, hnat, hb2⟩
        go_wp2
        go_ret
        exact ⟨v', rfl, by rw [← HN.out]; exact hnat.lower hb1.size, hb1.trans (hb2.mono hb1.size)⟩
      · have hNj : Hid (N < B ^ j) := by
          have h0 : N / B ^ j = 0 := by rw [← hdv.out]; omega
          exact (Nat.div_eq_zero_iff_lt (Bp_pos j)).1 h0
        go_wp2_with fail
        refine (cut_any _ _ _ _ _ (hown.limbs fun i _ => Nat.lt_trans (dg_lt N i) (by decide)) hNj.out (by omega)).mono ?_
        rintro e w' ⟨v', rfl, hnat, hb2⟩
        go_wp2
        go_ret
        exact ⟨v', rfl, by rw [← HN.out]; exact hnat.lower hbw.size, hbw.trans (hb2.mono hbw.size)⟩

set_option maxHeartbeats 800000 in
theorem limbs_any (w : World) (n : Nat) (hn : n < 18446744073709551616) :
    Calls Tryz.prog 33 #[.int .u64 n] w (Ret fun v' w' => NatR w' w.heap.size v' n ∧ Below w.heap.size w w') := by
  have hd3 : dl n ≤ 3 := dl_le (Nat.lt_trans hn (by decide))
  obtain ⟨N, HN⟩ : ∃ N, Hid (N = n) := ⟨_, rfl⟩
  go_enter Tryz.func33, Tryz.ntmps33
  go_wp2
  go_loopw [0, 3] (fun nv o wr => ∃ j m : Nat, j ≤ 3 ∧ m ≤ n ∧ nv = .int .u64 m ∧ Hid (m = N / B ^ j) ∧ Hid (j ≤ dl N) ∧ Own wr w.heap.size 80 o j (dg N) ∧ Below w.heap.size w wr) (fun nv _ _ => (intOf nv).toNat)
  case atStart => exact ⟨0, n, by omega, by omega, rfl, by simp [Hid, HN.out], Nat.zero_le _, World.ownsRow_nil _ _ _ _, Below.refl _ _⟩
  case round =>
    obtain ⟨j, m, hj, hm, rfl, hmv, hjd, hown, hbw⟩ := hrel
    by_cases h0 : 0 < m
    · have hdg : Hid (m % 1000000000 = dg N j) := by show _ = N / B ^ j % B; rw [← hmv.out, B_eq]
      have hnx : Hid (m / 1000000000 = N / B ^ (j + 1)) := by show _ = _; rw [div_pow_succ, ← hmv.out, B_eq]
      have hjl : Hid (j + 1 ≤ dl N) := by
        refine dl_gt ?_
        have h1 := hmv.out
        rcases Nat.lt_or_ge N (B ^ j) with h | h
        · rw [Nat.div_eq_of_lt h] at h1; omega
        · exact h
      have hj3 : j + 1 ≤ 3 := by have := hjl.out; rw [HN.out] at this; omega
      go_wp2_with (at_builtin; refine wpList_push wr rfl _ _ 44 rfl w.heap.size 80 Tryz.underlying44 info_u32 _ j (dg N) (by rfl) hown (by rfl) w hbw hbw.size (by omega) ?c1 ?_)
      case c1 => rw [← hdg.out]; omega
      intro v1 w1 hown1 hb1
      go_wp2
      go_roundw
      case rel => exact ⟨j + 1, m / 1000000000, hj3, by omega, by go_num, hnx, hjl, hown1, hb1⟩
      case measure => simp [intOf]; omega
    · obtain rfl : m = 0 := by omega
      go_wp2
      go_ret
      have hlt : N < B ^ j := (Nat.div_eq_zero_iff_lt (Bp_pos j)).1 hmv.out.symm
      have e : dl N = j := Nat.le_antisymm (dl_le hlt) hjd.out
      refine ⟨_, rfl, ?_, hbw⟩
      rw [← HN.out]
      exact NatR.of (hown.limbs fun i _ => Nat.lt_trans (dg_lt _ i) (by decide)) e

end Go.Proofs.YtdbiedpdibjdlaaGreat

