/-
  The walk of rational's divide.
-/
import Derived.Test.YtgheaoaicbkaoaaGreatDoorMWalkA
import Derived.Test.YtgheaoaicbkaoaaGreatDoorMWalkC
import Derived.Test.YtgheaoaicbkaoaaGreatDoorMWalkG
import Derived.Test.YtgheaoaicbkaoaaGreatDoorMWalkH
namespace Go.Proofs.YtgheaoaicbkaoaaGreatDoor
open Go.RowKit AC
set_option linter.unusedVariables false
set_option linter.unusedSimpArgs false

/-- What divide gives: quotient and remainder in new memory. -/
def DivR (w : World) (a b : Nat) (e : Ending) (w' : World) : Prop :=
  ∃ vq vr, e = .returned (.tuple #[vq, vr]) ∧ NatR w' w.heap.size vq (a / b) ∧ NatR w' w.heap.size vr (a % b) ∧ Below w.heap.size w w'

set_option maxHeartbeats 1000000 in
theorem divide_lt (w : World) (lo lo' : Nat) (v v' : Value) (a b : Nat) (hv : NatR w lo v a) (hv' : NatR w lo' v' b) (hk : dl a ≤ 4294967296) (h : a < b) :
    Calls Tryz.prog 118 #[v, v'] w (DivR w a b) := by
  have hq : Hid (a / b = 0) := Nat.div_eq_of_lt h
  have hr : Hid (a % b = a) := Nat.mod_eq_of_lt h
  have HC := Lib.hid (cmpI_lt h)
  have H1 := Lib.hid hv
  have H2 := Lib.hid hv'
  obtain ⟨A, c, rfl⟩ := Limbs.len hv
  obtain ⟨A', c', rfl⟩ := Limbs.len hv'
  clear hv hv' h
  go_enter Tryz.func118, Tryz.ntmps118
  go_wp2_with fail
  refine (ucompare_any _ _ _ _ _ _ _ H1.out H2.out).mono ?_
  rintro e w' ⟨rfl, q, rfl⟩
  rw [HC.out]
  go_wp2_with (at_builtin; refine wpList_copyNew _ rfl _ _ 112 rfl w.heap.size 120 Tryz.underlying112 info_u32 rfl A (dl a) c (dg a) (by rfl) _ (Limbs.drewN H1.out q) w ((Below.refl _ w).drewN q) (Nat.le_refl _) (by omega) ?_; intro v1 w1 hown1 hb1)
  go_ret2
  exact ⟨_, v1, rfl, by rw [hq.out]; exact NatR.zero _ _, by rw [hr.out]; exact NatR.of (hown1.limbs fun i _ => Nat.lt_trans (dg_lt _ i) (by decide)) rfl, hb1⟩

set_option maxHeartbeats 1000000 in
theorem divide_one (w : World) (lo lo' : Nat) (v v' : Value) (a b : Nat) (hv : NatR w lo v a) (hv' : NatR w lo' v' b) (hk : dl a ≤ 4294967296) (h : b ≤ a) (h0 : 0 < b) (h1 : dl b = 1) :
    Calls Tryz.prog 118 #[v, v'] w (DivR w a b) := by
  have hcm : Hid (0 ≤ cmpI a b) := by
    rcases Nat.lt_or_ge b a with h2 | h2
    · show 0 ≤ cmpI a b; rw [cmpI_gt h2]; decide
    · show 0 ≤ cmpI a b; rw [cmpI_eq (by omega)]; decide
  have hbB : b < 1000000000 := by have := lt_dl b; rw [h1] at this; simpa [B_eq] using this
  have H1 := Lib.hid hv
  have H2 := Lib.hid hv'
  obtain ⟨A, c, rfl⟩ := Limbs.len hv
  obtain ⟨_, A', c', rfl, hkc', hcm', hb'⟩ := hv'
  obtain ⟨bb, off, rfl, hlb, hbb, hcell⟩ := hb' (by omega)
  have hcl := hcell 0 (by omega)
  rw [dg_zero_of (by rw [B_eq]; exact hbB), Nat.add_zero] at hcl
  have hmb := Nat.mod_lt a h0
  obtain ⟨ci, hci⟩ : ∃ ci, Hid (cmpI a b = ci) := ⟨_, rfl⟩
  rw [hci.out] at hcm
  have hcm0 : 0 ≤ ci := hcm.out
  rw [h1] at H2 ⊢
  have HH := Lib.hid h1
  clear hv hb' hcell h hcm hcm' hkc' h1
  go_enter Tryz.func118, Tryz.ntmps118
  go_wp2_with fail
  refine (ucompare_any _ _ _ _ _ _ _ H1.out H2.out).mono ?_
  rintro e w' ⟨rfl, q, rfl⟩
  rw [hci.out]
  go_wp2_with fail
  refine (divideSmall_any _ _ _ a b (NatR.drewN H1.out q) (by omega) hbB h0).mono ?_
  rintro e w1 ⟨v2, rfl, hq1, hb1⟩
  go_wp2_with fail
  refine (fromWord_any _ (a % b) (by omega)).mono ?_
  rintro e w2 ⟨v3, rfl, hr1, hb2⟩
  go_wp2
  go_ret2
  have hs1 : w.heap.size ≤ w1.heap.size := hb1.size
  have hbw : Below w.heap.size w w1 := ⟨hb1.os, hb1.tape, hb1.output, hb1.size, hb1.block⟩
  exact ⟨v2, v3, rfl, hq1.below hb2, hr1.lower hs1, hbw.trans (hb2.mono hs1)⟩

theorem vs_shift (f : Nat → Nat) (k : Nat) : vs f (k + 1) = f 0 + vs (fun t => f (t + 1)) k * B := by
  induction k with
  | zero => simp [vs]
  | succ k ih =>
    rw [vs, ih]
    simp only [vs]
    rw [Nat.add_mul, Nat.pow_succ, Nat.mul_assoc (f (k + 1))]
    omega

/-- The digits of u ahead of step J. -/
def uf (A V J t : Nat) : Nat := if t < J then dg A t else dg (A / B ^ J % V) (t - J)

theorem uf_window {A V n j : Nat} (hV : V < B ^ n) (hVp : 0 < V) : vs (fun t => uf A V (j + 1) (j + t)) (n + 1) = A / B ^ (j + 1) % V * 1000000000 + dg A j := by
  have hR : A / B ^ (j + 1) % V < B ^ n := Nat.lt_trans (Nat.mod_lt _ hVp) hV
  rw [vs_shift, vs_congr (g := dg (A / B ^ (j + 1) % V)) (fun t _ => by unfold uf; rw [if_neg (by omega), show j + (t + 1) - (j + 1) = t by omega]), vs_dg, Nat.mod_eq_of_lt hR]
  unfold uf
  rw [if_pos (by omega), Nat.add_zero, B_eq]
  omega

theorem uf_next {A V n j U : Nat} {f' : Nat → Nat} (hV : V < B ^ n) (hVp : 0 < V) (hU : U % V = A / B ^ j % V) (h1 : ∀ t, t < j ∨ j + n < t → f' t = uf A V (j + 1) t) (h2 : ∀ t, t ≤ n → f' (j + t) = dg (U % V) t) :
    ∀ t, f' t = uf A V j t := by
  intro t
  have hb : ∀ x, x % V < B ^ n := fun x => Nat.lt_trans (Nat.mod_lt _ hVp) hV
  rcases Nat.lt_or_ge t j with h | h
  · rw [h1 t (.inl h)]; unfold uf; rw [if_pos (by omega), if_pos h]
  · rcases Nat.lt_or_ge (j + n) t with h3 | h3
    · rw [h1 t (.inr h3)]
      unfold uf
      rw [if_neg (by omega), if_neg (by omega), dg_far (Nat.lt_of_lt_of_le (hb _) (Nat.pow_le_pow_right B_pos (by omega))), dg_far (Nat.lt_of_lt_of_le (hb _) (Nat.pow_le_pow_right B_pos (by omega)))]
    · obtain ⟨d, rfl⟩ : ∃ d, t = j + d := ⟨t - j, by omega⟩
      rw [h2 d (by omega), hU]
      unfold uf
      rw [if_neg (by omega), Nat.add_sub_cancel_left]

theorem scale_facts {b n : Nat} (hn : dl b = n) (h2 : 2 ≤ n) : 0 < 1000000000 / (dg b (n - 1) + 1) ∧ 1000000000 / (dg b (n - 1) + 1) < 1000000000 ∧ b * (1000000000 / (dg b (n - 1) + 1)) < B ^ n := by
  have hb0 : b ≠ 0 := fun e => by subst e; rw [dl_zero] at hn; omega
  have ht : dg b (n - 1) < 1000000000 := dg_lt _ _
  have ht0 : dg b (n - 1) ≠ 0 := by rw [← hn]; exact dg_top hb0
  have hlt : b < (dg b (n - 1) + 1) * B ^ (n - 1) := by
    have h := mod_pow_succ b (n - 1)
    rw [show n - 1 + 1 = n by omega, Nat.mod_eq_of_lt (by rw [← hn]; exact lt_dl b)] at h
    have := Nat.mod_lt b (Bp_pos (n - 1))
    rw [Nat.add_mul, Nat.one_mul]
    omega
  generalize dg b (n - 1) = t at *
  have hp : 0 < 1000000000 / (t + 1) := Nat.div_pos (by omega) (by omega)
  have hd : 1000000000 / (t + 1) * (t + 1) ≤ 1000000000 := Nat.div_mul_le_self _ _
  refine ⟨hp, Nat.div_lt_self (by omega) (by omega), ?_⟩
  generalize 1000000000 / (t + 1) = s at *
  have h3 : b * s < (t + 1) * B ^ (n - 1) * s := Nat.mul_lt_mul_of_pos_right hlt hp
  have h4 : (t + 1) * B ^ (n - 1) * s = s * (t + 1) * B ^ (n - 1) := by rw [Nat.mul_comm, Nat.mul_assoc]
  have h5 : s * (t + 1) * B ^ (n - 1) ≤ B * B ^ (n - 1) := Nat.mul_le_mul_right _ hd
  have h6 : B * B ^ (n - 1) = B ^ n := by rw [Nat.mul_comm, ← Nat.pow_succ, show (n - 1).succ = n by omega]
  omega

/-- The loop of the long division. -/
def LRel (w : World) (bu bv bq e la n A V Q : Nat) (iv : Value) (wr : World) : Prop :=
  ∃ J : Nat, J ≤ la - n + 1 ∧ iv = .int .i64 (↑J - 1) ∧ RowU wr bu e (la + 1) (uf A V J) ∧ RowU wr bv e (n + 1) (dg V) ∧ RowU wr bq e (la - n + 1) (fun t => if J ≤ t then dg Q t else 0) ∧ Below w.heap.size w wr

set_option maxRecDepth 100000 in
set_option maxHeartbeats 2000000 in
theorem divide_big (w : World) (lo lo' : Nat) (v v' : Value) (a b : Nat) (hv : NatR w lo v a) (hv' : NatR w lo' v' b) (hk : dl a ≤ 4294967296) (h : b ≤ a) (h2 : 2 ≤ dl b) :
    Calls Tryz.prog 118 #[v, v'] w (DivR w a b) := by
  have hcm : 0 ≤ cmpI a b := by
    rcases Nat.lt_or_ge b a with h2 | h2
    · rw [cmpI_gt h2]; decide
    · rw [cmpI_eq (by omega)]; decide
  have hba : dl b ≤ dl a := dl_mono h
  have hsf := scale_facts rfl h2
  have H1 := Lib.hid hv
  have H2 := Lib.hid hv'
  obtain ⟨A, c, rfl⟩ := Limbs.len hv
  obtain ⟨_, A', c', rfl, hkc', hcm', hb'⟩ := hv'
  obtain ⟨bb, off, rfl, hlb, hbb, hcell⟩ := hb' (by omega)
  have hcl := hcell (dl b - 1) (by omega)
  obtain ⟨ci, hci⟩ : ∃ ci, Hid (cmpI a b = ci) := ⟨_, rfl⟩
  rw [hci.out] at hcm
  obtain ⟨t, et⟩ : ∃ t, Hid (t = dg b (dl b - 1)) := ⟨_, rfl⟩
  have ht : t < 1000000000 := by rw [et.out]; exact dg_lt _ _
  rw [← et.out] at hcl hsf
  obtain ⟨s, es⟩ : ∃ s, Hid (s = 1000000000 / (t + 1)) := ⟨_, rfl⟩
  rw [← es.out] at hsf
  obtain ⟨hs0, hsB, hVn⟩ := hsf
  have HVn := Lib.hid hVn
  have htz : ((t : Int) + 1 == 0) = false := by rw [beq_eq_false_iff_ne]; omega
  obtain ⟨n, hn⟩ : ∃ n, Hid (n = dl b) := ⟨_, rfl⟩
  obtain ⟨la, hla⟩ : ∃ n, Hid (n = dl a) := ⟨_, rfl⟩
  have HLA : Hid (NatR w lo (.slice A la c) a) := by rw [hla.out]; exact H1
  have HLB : Hid (NatR w lo' (.slice (some ⟨bb, off, none⟩) n c') b) := by rw [hn.out]; exact H2
  rw [← hn.out] at h2 hba hkc' HVn hcl ⊢
  rw [← hla.out] at hk hba ⊢
  have HH := Lib.hid h
  unfold maxLen at hcm'
  clear H1 H2 hb' hcell hVn hv h
  go_enter Tryz.func118, Tryz.ntmps118
  go_wp2_with fail
  refine (ucompare_any _ _ _ _ _ _ _ HLA.out HLB.out).mono ?_
  rintro e w' ⟨rfl, q, rfl⟩
  rw [hci.out]
  have esi : (1000000000 : Int) / (↑t + 1) = ↑s := by rw [es.out]; rfl
  have HES := Lib.hid esi
  clear esi
  go_wp2_with fail
  rw [HES.out]
  refine (multiplySmall_any _ _ _ a s (NatR.drewN HLA.out q) (by rw [← hla.out]; omega) hsB).mono ?_
  rintro e w1 ⟨v1, rfl, bu, rfl, hbu, hrow1, hb1⟩
  rw [← hla.out] at hrow1 ⊢
  have hb1' : Below w.heap.size w w1 := ⟨hb1.os, hb1.tape, hb1.output, hb1.size, hb1.block⟩
  have hsz1 : w.heap.size ≤ w1.heap.size := hb1.size
  have hbu' : w.heap.size ≤ bu := hbu
  go_wp2_with fail
  refine (multiplySmall_any _ _ _ b s (NatR.below (NatR.drewN HLB.out q) hb1) (by rw [← hn.out]; omega) hsB).mono ?_
  rintro e w2 ⟨v2, rfl, bv, rfl, hbv, hrow2, hb2⟩
  rw [← hn.out] at hrow2 ⊢
  have hrow1' := hrow1.below hb2
  have hb2' := hb1'.trans (hb2.mono hsz1)
  have hsz2 := hb2.size
  have hlt1 := hrow1.lt
  clear hrow1 hb1 hb2 hbu
  go_wp2_with (at_make; refine wpList_mkn _ rfl _ _ 112 rfl w.heap.size 120 Tryz.underlying112 info_u32 _ _ _ _ (la - n + 1) (by rfl) (by rfl) (by omega) (by omega) (by omega) w hb2' (by omega) ?_; intro bq w3 hlbq hlbq2 hrow3 hb3 hb3')
  have hlt2 := hrow2.lt
  have hr1 := hrow1'.below hb3'
  have hr2 := hrow2.below hb3'
  clear hrow1' hrow2 hb2' hb3'
  have hVp : Hid (0 < b * s) := Nat.mul_pos (by have := h2; have := hn.out; rcases Nat.eq_zero_or_pos b with h0 | h0; · subst h0; rw [dl_zero] at this; omega
                                                · exact h0) hs0
  have hla2 := hla.out
  have hn2 := hn.out
  have HA : Hid (a * s < B ^ (la + 1)) := by
    show a * s < B ^ (la + 1)
    rw [Nat.pow_succ]
    exact Nat.mul_lt_mul_of_lt_of_le (by rw [hla2]; exact lt_dl a) (by rw [B_eq]; omega) (Nat.pos_of_ne_zero (by decide))
  have Hstart : Hid (a * s / B ^ (la - n + 1) < b * s) := by
    show a * s / B ^ (la - n + 1) < b * s
    rw [Nat.div_lt_iff_lt_mul (Bp_pos _)]
    have hbp : B ^ (n - 1) ≤ b := by rw [hn2]; exact pow_le_of_dl (fun e => by subst e; rw [dl_zero] at hn2; omega)
    have h5 : a < b * B ^ (la - n + 1) := by
      have h6 : B ^ la = B ^ (n - 1) * B ^ (la - n + 1) := by rw [← Nat.pow_add]; congr 1; omega
      have h7 : a < B ^ la := by rw [hla2]; exact lt_dl a
      have h8 : B ^ (n - 1) * B ^ (la - n + 1) ≤ b * B ^ (la - n + 1) := Nat.mul_le_mul_right _ hbp
      omega
    have h9 : a * s < b * B ^ (la - n + 1) * s := Nat.mul_lt_mul_of_pos_right h5 hs0
    have h10 : b * B ^ (la - n + 1) * s = b * s * B ^ (la - n + 1) := by rw [Nat.mul_right_comm]
    omega
  clear hla2 hn2
  go_wp2
  go_loopw [13] (fun iv wr => LRel w bu bv bq 120 la n (a * s) (b * s) (a / b) iv wr) (fun iv _ => (intOf iv + 1).toNat)
  case atStart =>
    refine ⟨la - n + 1, by omega, by go_num, hr1.congr fun t ht => ?_, hr2, hrow3.congr fun t ht => ?_, hb3⟩
    · unfold uf
      by_cases h5 : t < la - n + 1
      · rw [if_pos h5]
      · rw [if_neg h5, Nat.mod_eq_of_lt Hstart.out]
        unfold dg
        rw [Nat.div_div_eq_div_mul, ← Nat.pow_add, show la - n + 1 + (t - (la - n + 1)) = t by omega]
    · rw [if_neg (by omega)]
  case round =>
    obtain ⟨J, hJ, rfl, hru, hrv, hrq, hbw⟩ := hrel
    rcases J with _ | j
    · have hru0 : RowU wr bu 120 (la + 1) (dg (a * s % (b * s))) := hru.congr fun t _ => by unfold uf; rw [if_neg (by omega), Nat.pow_zero, Nat.div_one, Nat.sub_zero]
      have hrq0 : RowU wr bq 120 (la - n + 1) (dg (a / b)) := hrq.congr fun t _ => by rw [if_pos (by omega)]
      have hmod : Hid (a * s % (b * s) / s = a % b) := by show _ = _; rw [Nat.mul_mod_mul_right, Nat.mul_div_cancel _ hs0]
      have hmlt : Hid (a * s % (b * s) < B ^ (la + 1)) := Nat.lt_of_le_of_lt (Nat.mod_le _ _) HA.out
      have hdlt : Hid (a / b < B ^ (la - n + 1)) := by
        show a / b < B ^ (la - n + 1)
        have h5 := Hstart.out
        rw [Nat.div_lt_iff_lt_mul (Bp_pos _)] at h5
        have hbp : 0 < b := Nat.pos_of_ne_zero (fun e => by subst e; have := hVp.out; simp at this)
        rw [Nat.div_lt_iff_lt_mul hbp, Nat.mul_comm]
        have h6 : b * s * B ^ (la - n + 1) = b * B ^ (la - n + 1) * s := by rw [Nat.mul_right_comm]
        rw [h6] at h5
        exact Nat.lt_of_mul_lt_mul_right h5
      have hmdl : dl (a * s % (b * s)) ≤ la + 1 := dl_le hmlt.out
      clear hru hrq
      go_wp2_with fail
      refine (trim_any _ _ _ _ _ (hru0.limbs hbu' (by omega) fun i _ => Nat.lt_trans (dg_lt _ i) (by decide)) hmlt.out).mono ?_
      rintro e w4 ⟨v4, rfl, hnat4, rfl⟩
      go_wp2_with fail
      refine (divideSmall_any _ _ _ _ s hnat4 (by omega) hsB hs0).mono ?_
      rintro e w5 ⟨v5, rfl, hnat5, hb5⟩
      rw [hmod.out] at hnat5
      have hrq5 := hrq0.below hb5
      have hszr : w.heap.size ≤ wr.heap.size := hbw.size
      clear hrq0 hru0
      go_wp2_with fail
      refine (trim_any _ _ _ _ _ (hrq5.limbs hlbq (by omega) fun i _ => Nat.lt_trans (dg_lt _ i) (by decide)) hdlt.out).mono ?_
      rintro e w6 ⟨v6, rfl, hnat6, rfl⟩
      go_wp2
      go_ret2
      exact ⟨v6, v5, rfl, hnat6, hnat5.lower hszr, hbw.trans (hb5.mono hszr)⟩
    · obtain ⟨hq1, hq2⟩ := quo_digit (n := a * s) (j := j) hVp.out
      rw [Nat.mul_div_mul_right _ _ hs0] at hq1
      have HQ1 := Lib.hid hq1
      have HQ2 := Lib.hid hq2
      have hfz := hrq.frozen j
      have hcq := hrq.cell (i := j) (by omega)
      clear hq1 hq2
      go_wp2_with fail
      rw [show j + n + 1 - j = n + 1 by omega]
      refine (quotientLimb_any wr (bu + 1) bu j (la + 1) (la + 1 - j) n (uf (a * s) (b * s) (j + 1)) _ (b * s) (a * s / B ^ (j + 1) % (b * s) * 1000000000 + dg (a * s) j) hru ?_ (by omega) (by omega) (by omega) (by omega)
        (hrv.part (by omega) (by omega) (by omega) fun i _ => Nat.lt_trans (dg_lt _ i) (by decide)) (by omega) h2 HVn.out ?_ (uf_window HVn.out hVp.out).symm ?_).mono ?_
      · intro t _; unfold uf; split <;> exact dg_lt _ _
      · have hbp : B ^ (n - 1) ≤ b := by
          rw [hn.out]; exact pow_le_of_dl (fun e => by subst e; have := hVp.out; simp at this)
        exact Nat.le_trans hbp (Nat.le_mul_of_pos_right b hs0)
      · have h5 := Nat.mod_lt (a * s / B ^ (j + 1)) hVp.out
        have h6 : (a * s / B ^ (j + 1) % (b * s) + 1) * B ≤ b * s * B := Nat.mul_le_mul_right _ h5
        have h7 := dg_lt (a * s) j
        rw [B_eq] at *
        omega
      · rintro e w4 ⟨rfl, f', hrf, hfB, hsame, hwin, hgr⟩
        rw [HQ1.out]
        have hnx := uf_next HVn.out hVp.out HQ2.out hsame hwin
        have hru4 : RowU w4 bu 120 (la + 1) (uf (a * s) (b * s) j) := hrf.congr fun t _ => hnx t
        have hrv4 := hrv.grown hgr (by omega)
        have hrq4 := hrq.grown hgr (by omega)
        have hb4 := hbw.trans (hgr.belowOf hbu' hbw.size)
        have hfz4 := hrq4.frozen j
        have hcq4 := hrq4.cell (i := j) (by omega)
        clear hnx hrf hfB hsame hwin hgr hru hrv hrq hfz hcq
        go_wp2
        go_roundw
        case rel =>
          refine ⟨j, by omega, by go_num, hru4.setOther (by simp; omega) _, hrv4.setOther (by simp; omega) _, RowU.congr (RowU.set hrq4 j (z := dg (a / b) j) rfl) fun t ht => ?_, hb4.setCell hlbq _⟩
          by_cases e : t = j
          · subst e; rw [upd_same, if_pos (Nat.le_refl _)]
          · rw [upd_other _ _ e]
            by_cases h5 : j + 1 ≤ t
            · rw [if_pos h5, if_pos (by omega)]
            · rw [if_neg h5, if_neg (by omega)]
        case measure => simp [intOf]

theorem divide_any (w : World) (lo lo' : Nat) (v v' : Value) (a b : Nat) (hv : NatR w lo v a) (hv' : NatR w lo' v' b) (hk : dl a ≤ 4294967296) (h0 : 0 < b) :
    Calls Tryz.prog 118 #[v, v'] w (DivR w a b) := by
  rcases Nat.lt_or_ge a b with h | h
  · exact divide_lt w lo lo' v v' a b hv hv' hk h
  · have hd : dl b ≠ 0 := fun e => by have := dl_eq_zero.1 e; omega
    by_cases h1 : dl b = 1
    · exact divide_one w lo lo' v v' a b hv hv' hk h h0 h1
    · exact divide_big w lo lo' v v' a b hv hv' hk h (by omega)

end Go.Proofs.YtgheaoaicbkaoaaGreatDoor

