/-
  The walk of rational's quotientLimb.
-/
import Derived.Test.YtgheaoaicbkaoaaGreatDoorMWalkC
import Derived.Test.YtgheaoaicbkaoaaGreatDoorMWalkG
import Derived.Deep.DeepCutAuto
import Derived.Deep.CutBlock
namespace Go.Proofs.YtgheaoaicbkaoaaGreatDoor
open Go.RowKit AC
set_option linter.unusedVariables false
set_option linter.unusedSimpArgs false

/-- The loop of the guess. -/
def GRel (x0 x1 top q0 : Nat) (gv rv : Value) : Prop :=
  ∃ g r : Nat, g ≤ 999999999999999999 ∧ r < 2000000000 ∧ gv = .int .u64 g ∧ rv = .int .u64 r ∧ Hid (x0 * B + x1 = g * top + r) ∧ Hid (q0 ≤ g)

/-- Behind the loop of the guess. -/
def GCut (w : World) (q0 : Nat) (gv rv : Value) (wx : World) : Prop :=
  ∃ g r q : Nat, g < 1000000000 ∧ gv = .int .u64 g ∧ rv = .int .u64 r ∧ Hid (q0 ≤ g ∧ g ≤ q0 + 1) ∧ wx = w.drewN q

/-- The loop that subtracts. -/
def SRel (w : World) (b : Nat) (e : TypeId) (j Lu n : Nat) (f : Nat → Nat) (V g : Nat) (bv iv : Value) (wr : World) : Prop :=
  ∃ (i β : Nat) (h : Nat → Nat), i ≤ n ∧ β ≤ 1000000000 ∧ iv = .int .i64 i ∧ bv = .int .i64 β ∧ Hid (RowU wr b e Lu h) ∧ Hid (∀ t, t < Lu → h t < B) ∧ Hid (∀ t, t < j ∨ j + i ≤ t → h t = f t) ∧
    Hid (vs (fun t => h (j + t)) i + g * (V % B ^ i) = vs (fun t => f (j + t)) i + β * B ^ i) ∧ Hid (w.grownBy wr (some b))

def S3 (s0 b0 : Int) (bv sv : Value) : Prop := ∃ k : Nat, s0 + k * 1000000000 < 1000000000 ∧ k ≤ 3 ∧ bv = .int .i64 (b0 + k) ∧ sv = .int .i64 (s0 + k * 1000000000)

theorem sub_next {h f : Nat → Nat} {j i g V β s' b' : Nat} (heq : vs (fun t => h (j + t)) i + g * (V % B ^ i) = vs (fun t => f (j + t)) i + β * B ^ i)
    (hst : s' + g * dg V i + β = f (j + i) + b' * 1000000000) :
    vs (fun t => upd h (j + i) s' (j + t)) (i + 1) + g * (V % B ^ (i + 1)) = vs (fun t => f (j + t)) (i + 1) + b' * B ^ (i + 1) := by
  rw [vs, vs_congr (f := fun t => upd h (j + i) s' (j + t)) (g := fun t => h (j + t)) (fun t ht => upd_other h _ (by omega))]
  simp only [upd_same, vs]
  rw [mod_pow_succ, Nat.mul_add]
  have e1 : b' * B ^ (i + 1) = b' * 1000000000 * B ^ i := by rw [Nat.pow_succ, Nat.mul_comm (B ^ i), ← Nat.mul_assoc]; rfl
  have e2 : g * (dg V i * B ^ i) = g * dg V i * B ^ i := by rw [Nat.mul_assoc]
  have e3 : (s' + g * dg V i + β) * B ^ i = (f (j + i) + b' * 1000000000) * B ^ i := by rw [hst]
  simp only [Nat.add_mul] at e3
  omega

theorem sub_end {h f : Nat → Nat} {j n g V β U q0 x0 Lu : Nat} (hV : V < B ^ n) (heq : vs (fun t => h (j + t)) n + g * (V % B ^ n) = vs (fun t => f (j + t)) n + β * B ^ n)
    (hh : ∀ t, t < Lu → h t < B) (hL : j + n ≤ Lu) (hU : U = vs (fun t => f (j + t)) (n + 1)) (hx : x0 = f (j + n)) (hq : q0 = U / V) (hg : q0 ≤ g ∧ g ≤ q0 + 1) (hVp : 0 < V) :
    (β ≤ x0 → x0 = β ∧ g = q0 ∧ vs (fun t => h (j + t)) n = U % V) ∧ (x0 < β → β = x0 + 1 ∧ g = q0 + 1 ∧ vs (fun t => h (j + t)) n + V = U % V + B ^ n) := by
  have hW : vs (fun t => h (j + t)) n < B ^ n := vs_lt fun t ht => hh _ (by omega)
  rw [Nat.mod_eq_of_lt hV] at heq
  rw [vs, ← hx] at hU
  have hdm := Nat.div_add_mod U V
  rw [← hq] at hdm
  generalize vs (fun t => h (j + t)) n = W at *
  generalize vs (fun t => f (j + t)) n = Ul at *
  have hR := Nat.mod_lt U hVp
  generalize U % V = R at *
  generalize B ^ n = P at *
  have hm : V * q0 = q0 * V := Nat.mul_comm _ _
  have hgv : g = q0 ∨ g = q0 + 1 := by omega
  have key : g = q0 → W + x0 * P = R + β * P := by rintro rfl; omega
  have key2 : g = q0 + 1 → W + x0 * P + V = R + β * P := by rintro rfl; rw [Nat.add_mul, Nat.one_mul] at heq; omega
  constructor
  · intro hle
    obtain ⟨d, rfl⟩ : ∃ d, x0 = β + d := ⟨x0 - β, by omega⟩
    rw [Nat.add_mul] at key key2
    rcases hgv with e | e
    · have h1 := key e
      rcases Nat.eq_zero_or_pos d with h0 | h0
      · subst h0
        rw [Nat.zero_mul] at h1
        exact ⟨rfl, e, by omega⟩
      · exfalso
        have : 1 * P ≤ d * P := Nat.mul_le_mul_right _ h0
        omega
    · exfalso
      have h1 := key2 e
      omega
  · intro hlt
    obtain ⟨d, rfl⟩ : ∃ d, β = x0 + d := ⟨β - x0, by omega⟩
    rw [Nat.add_mul] at key key2
    have h0 : 1 ≤ d := by omega
    have h1 : 1 * P ≤ d * P := Nat.mul_le_mul_right _ h0
    rcases hgv with e | e
    · exfalso
      have h2 := key e
      omega
    · have h2 := key2 e
      rcases Nat.lt_or_ge d 2 with h3 | h3
      · obtain rfl : d = 1 := by omega
        exact ⟨rfl, e, by omega⟩
      · exfalso
        have : 2 * P ≤ d * P := Nat.mul_le_mul_right _ h3
        omega

/-- The loop that adds back. -/
def ARel (w : World) (b : Nat) (e : TypeId) (j Lu n : Nat) (h : Nat → Nat) (W V : Nat) (cv iv : Value) (wr : World) : Prop :=
  ∃ i c : Nat, i ≤ n ∧ c ≤ 1 ∧ iv = .int .i64 i ∧ cv = .int .u32 c ∧ RowU wr b e Lu (fun t => if j ≤ t ∧ t < j + i then dg (W + V) (t - j) else h t) ∧ Hid (c = vs (fun t => dg W t + dg V t) i / B ^ i) ∧ Hid (w.grownBy wr (some b))

set_option maxRecDepth 100000 in
set_option maxHeartbeats 2000000 in
theorem quotientLimb_any (w : World) (lo b j Lu cap n : Nat) (f : Nat → Nat) (v : Value) (V U : Nat) (hrow : RowU w b 120 Lu f) (hf : ∀ t, t < Lu → f t < B) (hj : j + n + 1 ≤ Lu) (hcap : n + 1 ≤ cap) (hcap2 : cap ≤ 4294967296000) (hL : Lu ≤ 4294967296000)
    (hv : Limbs w lo v n (dg V)) (hblo : b < lo) (hn : 2 ≤ n) (hV : V < B ^ n) (htop : B ^ (n - 1) ≤ V) (hU : U = vs (fun t => f (j + t)) (n + 1)) (hUV : U < V * B) :
    Calls Tryz.prog 168 #[.slice (some ⟨b, j, none⟩) (n + 1) cap, v] w (fun e w' => e = .returned (.int .u32 ((U / V : Nat) : Int)) ∧ ∃ f', RowU w' b 120 Lu f' ∧ (∀ t, t < Lu → f' t < B) ∧
      (∀ t, t < j ∨ j + n < t → f' t = f t) ∧ (∀ t, t ≤ n → f' (j + t) = dg (U % V) t) ∧ w.grownBy w' (some b)) := by
  obtain ⟨_, A, c, rfl, hkc, hcm, hb⟩ := hv
  unfold maxLen at hcm
  obtain ⟨bv, off, rfl, hlb, hbb, hcell⟩ := hb (by omega)
  have hbv : bv ≠ b := by omega
  -- the digits that are read ahead of the loops
  have hc1 := hcell (n - 1) (by omega)
  have hc2 := hcell (n - 2) (by omega)
  have hu0 := hrow.cell (i := j + n) (by omega)
  have hu1 := hrow.cell (i := j + (n - 1)) (by omega)
  have hu2 := hrow.cell (i := j + (n - 2)) (by omega)
  have ht0 : dg V (n - 1) < 1000000000 := dg_lt _ _
  have ht1 : dg V (n - 2) < 1000000000 := dg_lt _ _
  have hx0 : f (j + n) < 1000000000 := hf _ (by omega)
  have hx1 : f (j + (n - 1)) < 1000000000 := hf _ (by omega)
  have hx2 : f (j + (n - 2)) < 1000000000 := hf _ (by omega)
  have htp : 1 ≤ dg V (n - 1) := by
    have h1 := dg_top (n := V) (by have := Bp_pos (n - 1); omega)
    have h2 : dl V = n := Nat.le_antisymm (dl_le hV) (by have := dl_gt htop; omega)
    rw [h2] at h1
    omega
  obtain ⟨top, etop⟩ : ∃ x, Hid (x = dg V (n - 1)) := ⟨_, rfl⟩
  obtain ⟨next, enext⟩ : ∃ x, Hid (x = dg V (n - 2)) := ⟨_, rfl⟩
  obtain ⟨x0, ex0⟩ : ∃ x, Hid (x = f (j + n)) := ⟨_, rfl⟩
  obtain ⟨x1, ex1⟩ : ∃ x, Hid (x = f (j + (n - 1))) := ⟨_, rfl⟩
  obtain ⟨x2, ex2⟩ : ∃ x, Hid (x = f (j + (n - 2))) := ⟨_, rfl⟩
  rw [← etop.out] at hc1 ht0 htp
  rw [← enext.out] at hc2 ht1
  rw [← ex0.out] at hu0 hx0
  rw [← ex1.out] at hu1 hx1
  rw [← ex2.out] at hu2 hx2
  have HVs : Hid (V = (top * B + next) * B ^ (n - 2) + V % B ^ (n - 2)) := by
    have h := top_two V (n - 2) (by rw [show n - 2 + 2 = n by omega]; exact hV)
    rw [show n - 2 + 1 = n - 1 by omega, ← etop.out, ← enext.out] at h
    exact h
  have HUs : Hid (U = ((x0 * B + x1) * B + x2) * B ^ (n - 2) + vs (fun t => f (j + t)) (n - 2)) := by
    have h := vs_top_three (fun t => f (j + t)) (n - 2)
    rw [show n - 2 + 3 = n + 1 by omega, ← hU, show n - 2 + 2 = n by omega, show n - 2 + 1 = n - 1 by omega, ← ex0.out, ← ex1.out, ← ex2.out] at h
    exact h
  have HC := Lib.hid hcell
  have HU := Lib.hid hU
  have HF := Lib.hid hf
  have HV := Lib.hid hV
  have HT := Lib.hid htop
  have HUV := Lib.hid hUV
  clear hb hcell hU hf hV htop hUV
  have hz : ((top : Int) == 0) = false := by rw [beq_eq_false_iff_ne]; omega
  go_enter Tryz.func168, Tryz.ntmps168
  go_wp2
  go_quiet (fail)
  go_wp2
  go_quiet (fail)
  go_wp2
  go_quiet (fail)
  go_upto_block 0 with (fail)
  obtain ⟨q0, Hq0⟩ : ∃ x, Hid (x = U / V) := ⟨_, rfl⟩
  have Hqm : Hid (q0 * V ≤ U) := by show _ ≤ _; rw [Hq0.out]; exact Nat.div_mul_le_self U V
  have HqB : q0 < 1000000000 := by
    rw [Hq0.out]
    have h := HUV.out
    exact (Nat.div_lt_iff_lt_mul (by have := Bp_pos (n - 1); have := HT.out; omega)).2 (by rw [Nat.mul_comm]; exact h)
  have Hul : Hid (vs (fun t => f (j + t)) (n - 2) < B ^ (n - 2)) := vs_lt fun t ht => HF.out _ (by omega)
  have Hvl : Hid (V % B ^ (n - 2) < B ^ (n - 2)) := Nat.mod_lt _ (Bp_pos _)
  go_cut [9, 10] (fun gv rv wx => GCut w q0 gv rv wx)
  case first =>
    go_wp2
    go_loop [9, 10] (fun gv rv => GRel x0 x1 top q0 gv rv) (fun gv _ => (intOf gv).toNat)
    case atStart =>
      have hdm := Nat.div_add_mod (x0 * 1000000000 + x1) top
      have hml := Nat.mod_lt (x0 * 1000000000 + x1) (show 0 < top by omega)
      have hdl := Nat.div_le_self (x0 * 1000000000 + x1) top
      refine ⟨(x0 * 1000000000 + x1) / top, (x0 * 1000000000 + x1) % top, by omega, by omega, by go_num, by go_num, ?_, ?_⟩
      · show x0 * 1000000000 + x1 = _
        rw [Nat.mul_comm _ top]; exact hdm.symm
      · show q0 ≤ _
        rw [Nat.le_div_iff_mul_le (by omega)]
        exact knuth_first HVs.out HUs.out Hul.out hx2 Hqm.out
    case round =>
      obtain ⟨g, r, hgm, hrm, rfl, rfl, hgr, hqg⟩ := hrel
      by_cases hr : r < 1000000000
      · have hrb : decide ((r : Int) < 1000000000) = true := by simp; omega
        by_cases hg : 1000000000 ≤ g
        · have hgb : decide ((1000000000 : Int) ≤ (g : Int)) = true := by simp; omega
          go_wp2
          go_round
          case rel =>
            refine ⟨g - 1, r + top, by omega, by omega, by go_num, by go_num, ?_, ?_⟩
            · show _ = _
              rw [hgr.out]
              obtain ⟨k, rfl⟩ : ∃ k, g = k + 1 := ⟨g - 1, by omega⟩
              rw [Nat.add_mul, Nat.one_mul, Nat.add_sub_cancel]; omega
            · show q0 ≤ g - 1
              omega
          case measure => simp [intOf]; omega
        · have hgb : decide ((1000000000 : Int) ≤ (g : Int)) = false := by simp; omega
          have hpb := prod_bound (show g < 1000000000 by omega) ht1
          have hpi : ((g : Int) * next) ≤ 999999998000000001 := by omega
          have hpi0 : 0 ≤ ((g : Int) * next) := by omega
          by_cases hx : r * 1000000000 + x2 < g * next
          · have hxi : (r : Int) * 1000000000 + x2 < (g : Int) * next := by omega
            have hxb : decide ((r : Int) * 1000000000 + x2 < (g : Int) * next) = true := by simp; omega
            have hlt := knuth_less (q := q0) HVs.out HUs.out Hul.out hgr.out hx Hqm.out
            go_wp2
            go_round
            case rel =>
              refine ⟨g - 1, r + top, by omega, by omega, by go_num, by go_num, ?_, ?_⟩
              · show _ = _
                rw [hgr.out]
                obtain ⟨k, rfl⟩ : ∃ k, g = k + 1 := ⟨g - 1, by omega⟩
                rw [Nat.add_mul, Nat.one_mul, Nat.add_sub_cancel]; omega
              · show q0 ≤ g - 1
                omega
            case measure => simp [intOf]; omega
          · have hxi : ¬ (r : Int) * 1000000000 + x2 < (g : Int) * next := by omega
            have hxb : decide ((r : Int) * 1000000000 + x2 < (g : Int) * next) = false := by simp; omega
            go_wp2
            go_meet
            refine ⟨g, r, _, by omega, rfl, rfl, ⟨hqg.out, ?_⟩, by first | rfl | (simp only [World.drewN_drewN]; rfl)⟩
            have h := knuth_near HVs.out Hvl.out ht1 HUs.out hgr.out htp (show g < B by rw [B_eq]; omega) (.inr (by rw [B_eq]; omega))
            have hVp : 0 < V := by have := Bp_pos (n - 1); have := HT.out; omega
            have h2 := (Nat.le_div_iff_mul_le hVp).2 h
            rw [← Hq0.out] at h2
            omega
      · have hrb : decide ((r : Int) < 1000000000) = false := by simp; omega
        go_wp2
        go_meet
        have hgB := knuth_rest HVs.out Hvl.out ht1 HUs.out hgr.out HUV.out (show B ≤ r by rw [B_eq]; omega)
        refine ⟨g, r, _, hgB, rfl, rfl, ⟨hqg.out, ?_⟩, by first | rfl | (simp only [World.drewN_drewN]; rfl)⟩
        have h := knuth_near HVs.out Hvl.out ht1 HUs.out hgr.out htp hgB (.inl (by rw [B_eq]; omega))
        have hVp : 0 < V := by have := Bp_pos (n - 1); have := HT.out; omega
        have h2 := (Nat.le_div_iff_mul_le hVp).2 h
        rw [← Hq0.out] at h2
        omega
  case rest =>
    obtain ⟨g, r, q, hg, rfl, rfl, hgq, rfl⟩ := hcut
    clear hc1 hc2 hu0 hu1 hu2 etop enext ht0 ht1 htp hz hx1 hx2 ex1 ex2
    go_wp2
    go_loopw [11, 78] (fun bv' iv wr => SRel w b 120 j Lu n f V g bv' iv wr) (fun _ iv _ => n - (intOf iv).toNat)
    case atStart =>
      exact ⟨0, 0, f, by omega, by omega, rfl, rfl, hrow.drewN _, HF.out, fun _ _ => rfl, by simp [vs, Hid, Nat.mod_one], (World.grownBy.refl w _).drewN _⟩
    case round =>
      obtain ⟨i, β, h, hi, hβ, rfl, rfl, hrow', hh, hsame, heq, hgr⟩ := hrel
      by_cases hlt : i < n
      · have hcv := World.grownBy.cell hgr.out (HC.out i hlt) (by simp; omega)
        have hcu := hrow'.out.cell (i := j + i) (by omega)
        rw [hsame.out (j + i) (.inr (Nat.le_refl _))] at hcu
        have hx : f (j + i) < 1000000000 := HF.out _ (by omega)
        have hy : dg V i < 1000000000 := dg_lt _ _
        have hfz := hrow'.out.frozen (j + i)
        obtain ⟨x, ex⟩ : ∃ x, Hid (x = f (j + i)) := ⟨_, rfl⟩
        obtain ⟨y, ey⟩ : ∃ x, Hid (x = dg V i) := ⟨_, rfl⟩
        rw [← ex.out] at hcu hx
        rw [← ey.out] at hcv hy
        have hpb := prod_bound hg hy
        have hpi : ((g : Int) * y) ≤ 999999998000000001 := by omega
        have hpi0 : 0 ≤ ((g : Int) * y) := by omega
        clear hpb
        go_wp2
        go_quiet (fail)
        go_wp2
        go_loop [11, 13] (fun bv' sv => S3 ((x : Int) - β - (g : Int) * y % 1000000000) ((g : Int) * y / 1000000000) bv' sv) (fun _ sv => (-(intOf sv)).toNat)
        case atStart => exact ⟨0, by omega, by omega, by simp, by simp⟩
        case round =>
          obtain ⟨k, hk1, hk3, rfl, rfl⟩ := hrel
          by_cases hneg : (x : Int) - β - (g : Int) * y % 1000000000 + k * 1000000000 < 0
          · go_wp2
            go_round
            case rel => exact ⟨k + 1, by omega, by omega, by go_num, by go_num⟩
            case measure => simp [intOf]; omega
          · go_wp2
            go_roundw
            case rel =>
              obtain ⟨s', hs'⟩ : ∃ s' : Nat, (s' : Int) = (x : Int) - β - (g : Int) * y % 1000000000 + k * 1000000000 := ⟨((x : Int) - β - (g : Int) * y % 1000000000 + k * 1000000000).toNat, by omega⟩
              have hst : s' + g * y + β = x + (g * y / 1000000000 + k) * 1000000000 := by omega
              have hsb : s' < 1000000000 := by omega
              refine ⟨i + 1, g * y / 1000000000 + k, upd h (j + i) s', by omega, by omega, by go_num, by go_num, RowU.set (RowU.drewN hrow'.out _) (j + i) hs'.symm, ?_, ?_, ?_, (hgr.out.drewN _).setAt _ _⟩
              · intro t ht
                by_cases e : t = j + i
                · subst e; rw [upd_same]; exact hsb
                · rw [upd_other h _ e]; exact hh.out t ht
              · intro t ht
                rw [upd_other h _ (by omega)]; exact hsame.out t (by omega)
              · exact sub_next heq.out (by rw [← ex.out, ← ey.out]; exact hst)
            case measure => simp [intOf]; omega
      · obtain rfl : i = n := by omega
        have hcu := hrow'.out.cell (i := j + i) (by omega)
        rw [hsame.out (j + i) (.inr (Nat.le_refl _)), ← ex0.out] at hcu
        have hfz := hrow'.out.frozen (j + i)
        have hfin := sub_end (q0 := q0) (x0 := x0) HV.out heq.out hh.out (by omega) HU.out ex0.out Hq0.out hgq.out (by have := Bp_pos (i - 1); have := HT.out; omega)
        by_cases hneg : β ≤ x0
        · obtain ⟨h1, h2, h3⟩ := hfin.1 hneg
          have H3 := Lib.hid h3
          have H2 := Lib.hid h2
          clear h3 h2 hfin
          go_wp2
          go_ret
          refine ⟨?_, upd h (j + i) 0, RowU.set hrow'.out (j + i) (by omega), ?_, ?_, ?_, hgr.out.setAt _ _⟩
          · rw [← Hq0.out, ← H2.out]; rfl
          · intro t ht
            by_cases e : t = j + i
            · subst e; rw [upd_same]; exact B_pos
            · rw [upd_other h _ e]; exact hh.out t ht
          · intro t ht
            rw [upd_other h _ (by omega)]; exact hsame.out t (by omega)
          · intro t ht
            by_cases e : t = i
            · subst e; rw [upd_same, dg_far]
              rw [← H3.out]; exact vs_lt fun t ht => hh.out _ (by omega)
            · rw [upd_other h _ (by omega), ← H3.out, dg_vs (fun t ht => hh.out _ (by omega)) (by omega)]
        · obtain ⟨h1, h2, h3⟩ := hfin.2 (by omega)
          have H3 := Lib.hid h3
          have H2 := Lib.hid h2
          clear h3 h2 hfin
          go_wp2
          go_loopw [15, 136] (fun cv iv wr' => ARel wr b 120 j Lu i h (vs (fun t => h (j + t)) i) V cv iv wr') (fun _ iv _ => i - (intOf iv).toNat)
          case atStart =>
            exact ⟨0, 0, by omega, by omega, rfl, rfl, hrow'.out.congr fun t _ => by rw [if_neg (by omega)], by simp [vs, Hid], World.grownBy.refl _ _⟩
          case round =>
            obtain ⟨i', c', hi', hc', rfl, rfl, hrow2, hcv, hgr2⟩ := hrel
            by_cases hlt2 : i' < i
            · have hcv2 := World.grownBy.cell (hgr.out.then hgr2.out) (HC.out i' hlt2) (by simp; omega)
              have hcu2 := hrow2.cell (i := j + i') (by omega)
              rw [if_neg (by omega)] at hcu2
              have hfz2 := hrow2.frozen (j + i')
              have hhx : h (j + i') = dg (vs (fun t => h (j + t)) i) i' := (dg_vs (f := fun t => h (j + t)) (fun t ht => hh.out _ (by omega)) hlt2).symm
              have hsd := sum_digit (vs (fun t => h (j + t)) i) V i'
              have hsn := sum_next (vs (fun t => h (j + t)) i) V i'
              have hx : h (j + i') < 1000000000 := hh.out _ (by omega)
              have hy : dg V i' < 1000000000 := dg_lt _ _
              rw [← hcv.out, ← hhx, B_eq] at hsd
              rw [← hcv.out, ← hhx] at hsn
              obtain ⟨x, ex⟩ : ∃ x, Hid (x = h (j + i')) := ⟨_, rfl⟩
              obtain ⟨y, ey⟩ : ∃ x, Hid (x = dg V i') := ⟨_, rfl⟩
              rw [← ex.out] at hcu2 hx hsd hsn
              rw [← ey.out] at hcv2 hy hsd hsn
              have HSD := Lib.hid hsd
              have HSN := Lib.hid hsn
              clear hsd hsn hhx
              go_wp2
              go_quiet (fail)
              go_wp2
              go_roundw
              case rel =>
                refine ⟨i' + 1, (x + y + c') / 1000000000, by omega, by omega, by go_num, by go_num, RowU.congr (RowU.set (RowU.drewN hrow2 _) (j + i') (z := (x + y + c') % 1000000000) (by go_num)) fun t ht => ?_, HSN.out.symm, (hgr2.out.drewN _).setAt _ _⟩
                by_cases e : t = j + i'
                · subst e; rw [upd_same, if_pos (by omega), Nat.add_sub_cancel_left]; exact HSD.out.symm
                · rw [upd_other _ _ e]
                  by_cases h4 : j ≤ t ∧ t < j + i'
                  · rw [if_pos h4, if_pos (by omega)]
                  · rw [if_neg h4, if_neg (by omega)]
              case measure => simp [intOf]; omega
            · obtain rfl : i' = i := by omega
              have hWB : vs (fun t => h (j + t)) i' < B ^ i' := vs_lt fun t ht => hh.out _ (by omega)
              have hVp : 0 < V := by have := Bp_pos (i' - 1); have := HT.out; omega
              have hRB : U % V < B ^ i' := Nat.lt_trans (Nat.mod_lt U hVp) HV.out
              obtain rfl : c' = 1 := by
                have h4 := hcv.out
                rw [vs_sum, Nat.mod_eq_of_lt hWB, Nat.mod_eq_of_lt HV.out, H3.out] at h4
                rw [h4, Nat.add_div_right _ (Bp_pos i'), Nat.div_eq_of_lt hRB]
              have hfz2 := hrow2.frozen (j + i')
              have hcu2 := hrow2.cell (i := j + i') (by omega)
              have HWB := Lib.hid hWB
              have HRB := Lib.hid hRB
              have hg1 : 1 ≤ g := by have := H2.out; omega
              clear hWB hRB
              go_wp2
              go_ret
              refine ⟨?_, upd (fun t => if j ≤ t ∧ t < j + i' then dg (vs (fun t => h (j + t)) i' + V) (t - j) else h t) (j + i') 0, RowU.set hrow2 (j + i') (by omega), ?_, ?_, ?_, (hgr.out.then hgr2.out).setAt _ _⟩
              · rw [← Hq0.out]
                have h4 := H2.out
                have h5 : (g : Int) - 1 = (q0 : Int) := by omega
                rw [← h5]; rfl
              · intro t ht
                by_cases e : t = j + i'
                · subst e; rw [upd_same]; exact B_pos
                · rw [upd_other _ _ e]
                  by_cases h4 : j ≤ t ∧ t < j + i'
                  · rw [if_pos h4]; exact dg_lt _ _
                  · rw [if_neg h4]; exact hh.out t ht
              · intro t ht
                rw [upd_other _ _ (by omega), if_neg (by omega)]; exact hsame.out t (by omega)
              · intro t ht
                by_cases e : t = i'
                · subst e; rw [upd_same, dg_far HRB.out]
                · rw [upd_other _ _ (by omega), if_pos (by omega), Nat.add_sub_cancel_left, H3.out]
                  obtain ⟨d, hd⟩ : ∃ d, i' = t + 1 + d := ⟨i' - (t + 1), by omega⟩
                  unfold dg
                  have e2 : U % V + B ^ i' = U % V + B ^ d * B * B ^ t := by
                    congr 1
                    rw [hd, Nat.pow_add, Nat.pow_succ]; simp only [Nat.mul_comm, Nat.mul_left_comm, Nat.mul_assoc]
                  rw [e2, Nat.add_mul_div_right _ _ (Bp_pos t), Nat.add_mul_mod_self_right]

end Go.Proofs.YtgheaoaicbkaoaaGreatDoor

