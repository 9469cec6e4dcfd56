/-
  The walk of the reference's guess: only its bound counts.
-/
import Derived.Test.YtafhbipafbchcaaRefC
import Derived.Laws.FloatArith
namespace Go.Proofs.Ytafhbipafbchcaa
open Go.RowKit AC
set_option linter.unusedVariables false
set_option linter.unusedSimpArgs false

/-- What an operation on floats gives, and how often it asks: nothing is said about the bits. -/
def flW (op : BinOp) (k : FloatKind) (x y : Nat) (w : World) : Nat × Nat :=
  match floatBits op k x y with
  | some r => (r, 0)
  | none => ((Question.nanBits k x y).cut (w.tape w.drawn (.nanBits k x y)), 1)
theorem run_fl (P : Program) (w : World) (op : BinOp) (hop : op = .mul ∨ op = .add ∨ op = .quo) (t : TypeId) (k : FloatKind) (x y : Nat) :
    (binOp op t (.float k x) (.float k y)).run P w = .ok (.float k (flW op k x y w).1) (w.drewN (flW op k x y w).2) := by
  cases h : floatBits op k x y with
  | some r => rw [run_float_arith w op t k x y r h]; simp [flW, h]; rfl
  | none =>
    rcases hop with rfl | rfl | rfl <;> (simp only [floatBits] at h; simp [binOp, Op.floatArith, h, flW, floatBits]; rfl)
/-- The same for a conversion to uint64. -/
def cvW (b : Nat) (w : World) : Int × Nat :=
  match floatToIntVal .f64 b .u64 with
  | some n => (n, 0)
  | none => (IntKind.u64.wrap ((Question.floatToInt .f64 b .u64).cut (w.tape w.drawn (.floatToInt .f64 b .u64))), 1)
theorem run_cv (P : Program) (w : World) (src dst : TypeId) (b : Nat) (hs : (P.underlying src).isSome = true) (hd : P.underlying dst = some (.int .u64)) :
    (convert src dst (.float .f64 b)).run P w = .ok (.int .u64 (cvW b w).1) (w.drewN (cvW b w).2) := by
  cases h : floatToIntVal .f64 b .u64 with
  | some n => rw [run_convert_float_int w src dst .f64 .u64 b n hs hd h]; simp [cvW, h]; rfl
  | none =>
    obtain ⟨u, hs'⟩ := Option.isSome_iff_exists.1 hs
    have h2 : (Conv.floatToInt .f64 b .u64).run P w = .ok (.int .u64 (cvW b w).1) (w.drewN (cvW b w).2) := by
      simp only [cvW, h]
      unfold floatToIntVal at h
      unfold Conv.floatToInt
      split at h
      · rename_i m he
        split at h
        · cases h
        · rename_i hb
          simp [he, hb]; rfl
      · rename_i he
        simp [he]; rfl
    cases u <;> simp [convert, run_underlying hs', run_underlying hd, h2]
theorem guess_fin (w w' : World) (x : Int) (h : IntKind.u64.wrap x ≤ 999999999) (hq : Qt w w') : ∃ d : Nat, d ≤ 999999999 ∧ Ending.returned (.int .u64 (IntKind.u64.wrap x)) = .returned (.int .u64 d) ∧ Qt w w' := by
  have h0 : 0 ≤ IntKind.u64.wrap x := by
    simp [IntKind.wrap, IntKind.bits, IntKind.signed]
    omega
  refine ⟨(IntKind.u64.wrap x).toNat, by omega, ?_, hq⟩
  rw [Int.toNat_of_nonneg h0]

set_option maxHeartbeats 2000000 in
theorem guess_any (w : World) (lo lo' : Nat) (v v' : Value) (n m : Nat) (hv : NatR w lo v n) (hv' : NatR w lo' v' m) (hm2 : 2 ≤ dl m) (hnm : dl n ≤ dl m + 1) :
    Calls Try.prog 55 #[v, v'] w (fun e w' => ∃ d : Nat, d ≤ 999999999 ∧ e = .returned (.int .u64 d) ∧ Qt w w') := by
  obtain ⟨_, A, c, rfl, hkc, hcm, hb⟩ := hv
  obtain ⟨_, A', c', rfl, hkc', hcm', hb'⟩ := hv'
  unfold maxLen at hcm hcm'
  obtain ⟨b', off', rfl, hlb', hbb', hcell'⟩ := hb' (by omega)
  have hc1 := hcell' (dl m - 1) (by omega)
  have hc2 := hcell' (dl m - 2) (by omega)
  have hd1 : dg m (dl m - 1) < 1000000000 := dg_lt _ _
  have hd2 : dg m (dl m - 2) < 1000000000 := dg_lt _ _
  have hd0 : 0 < dg m (dl m - 1) := Nat.pos_of_ne_zero (dg_top (by intro h; rw [h, dl_zero] at hm2; omega))
  clear hcell' hb'
  by_cases hlt : dl n < dl m
  · go_enter Try.func55, Try.ntmps55
    go_wp2
    go_ret
    exact ⟨0, by omega, rfl, Qt.refl _⟩
  · obtain ⟨b, off, rfl, hlb, hbb, hcell⟩ := hb (by omega)
    have hc3 := hcell (dl m - 1) (by omega)
    have hc4 := hcell (dl m - 2) (by omega)
    have hd3 : dg n (dl m - 1) < 1000000000 := dg_lt _ _
    have hd4 : dg n (dl m - 2) < 1000000000 := dg_lt _ _
    have hd5 : dg n (dl m) < 1000000000 := dg_lt _ _
    obtain ⟨x1, hx1⟩ : ∃ x, x = dg m (dl m - 1) := ⟨_, rfl⟩
    obtain ⟨x2, hx2⟩ : ∃ x, x = dg m (dl m - 2) := ⟨_, rfl⟩
    obtain ⟨x3, hx3⟩ : ∃ x, x = dg n (dl m - 1) := ⟨_, rfl⟩
    obtain ⟨x4, hx4⟩ : ∃ x, x = dg n (dl m - 2) := ⟨_, rfl⟩
    obtain ⟨x5, hx5⟩ : ∃ x, x = dg n (dl m) := ⟨_, rfl⟩
    have hc5 := fun h => hcell (dl m) h
    rw [← hx1] at hc1 hd1 hd0
    rw [← hx2] at hc2 hd2
    rw [← hx3] at hc3 hd3
    rw [← hx4] at hc4 hd4
    rw [← hx5] at hd5 hc5
    obtain ⟨k, hk⟩ : ∃ k, dl m = k + 2 := ⟨dl m - 2, by omega⟩
    rw [hk] at hc1 hc2 hc3 hc4 hc5 hkc' hnm hlt ⊢
    have e1 : k + 2 - 1 = k + 1 := rfl
    have e2 : k + 2 - 2 = k := rfl
    rw [e1] at hc1 hc3
    rw [e2] at hc2 hc4
    clear hcell hb hx1 hx2 hx3 hx4 hx5 hk
    by_cases heq : dl n = k + 2
    · rw [heq]
      clear hc5
      have hee : (((k : Int) + 2) == ((k : Int) + 2)) = true := by simp
      go_enter Try.func55, Try.ntmps55
      go_wp2
      go_quiet (fail)
      go_wp2
      go_quiet (fail)
      go_wp2
      go_ret
      refine ⟨(x3 * 1000000000 + x4) / (x1 * 1000000000 + x2), ?_, by go_num, Qt.of _ _⟩
      have : (x3 * 1000000000 + x4) / (x1 * 1000000000 + x2) < 1000000000 := by
        rw [Nat.div_lt_iff_lt_mul (by omega)]
        omega
      omega
    · obtain ⟨h5⟩ : Nonempty (dl n = k + 3) := ⟨by omega⟩
      rw [h5] at hc5 ⊢
      have hc6 := hc5 (by omega)
      clear hc5 heq
      have hee : (((k : Int) + 3) == ((k : Int) + 2)) = false := by rw [beq_eq_false_iff_ne]; omega
      go_enter Try.func55, Try.ntmps55
      go_wp2
      go_quiet (fail)
      go_wp2
      go_quiet (fail)
      go_wp2_with (first | (simp only [run_fl Try.prog _ .mul (.inl rfl), run_fl Try.prog _ .add (.inr (.inl rfl)), run_fl Try.prog _ .quo (.inr (.inr rfl))]) | (simp only [run_cv Try.prog _ 76 48 _ (by rw [Try.underlying76]; rfl) Try.underlying48]))
      all_goals go_ret
      · exact ⟨999999999, Nat.le_refl _, rfl, Qt.of _ _⟩
      · exact guess_fin _ _ _ (by omega) (Qt.of _ _)

end Go.Proofs.Ytafhbipafbchcaa
