/-
  The walk of the reference's natMul.
-/
import Derived.Test.YtafhbipafbchcaaRefB
namespace Go.Proofs.Ytafhbipafbchcaa
open Go.RowKit AC
set_option linter.unusedVariables false
set_option linter.unusedSimpArgs false

/-- The inner loop of natMul: under way, or one step behind the end. -/
def MulIn (w : World) (b i n m : Nat) (cv jv : Value) (wr : World) : Prop :=
  (∃ (j c : Nat) (g : Nat → Nat), j ≤ dl m ∧ c < 1000000000 ∧ jv = .int .i64 j ∧ cv = .int .u64 c ∧ Hid (∀ t, t < dl n + dl m + 1 → g t < B) ∧
          Hid (∀ t, i + j ≤ t → t < dl n + dl m + 1 → g t = dg (n % B ^ i * m) t) ∧ Hid (vs g (i + j) + c * B ^ (i + j) = (n % B ^ i * m) % B ^ (i + j) + dg n i * (m % B ^ j) * B ^ i) ∧
          RowU wr b 49 (dl n + dl m + 1) g ∧ Below w.heap.size w wr) ∨
  (jv = .int .i64 ((dl m : Int) + 1) ∧ cv = .int .u64 0 ∧ RowU wr b 49 (dl n + dl m + 1) (dg (n % B ^ (i + 1) * m)) ∧ Below w.heap.size w wr)

set_option maxHeartbeats 2000000 in
theorem natMul_any (w : World) (lo lo' : Nat) (v v' : Value) (n m : Nat) (hv : NatR w lo v n) (hv' : NatR w lo' v' m) (hk : dl n ≤ 4294967296) (hk' : dl m ≤ 4294967296) :
    Calls Try.prog 49 #[v, v'] w (Ret fun v2 w' => NatR w' w.heap.size v2 (n * m) ∧ Below w.heap.size w w') := by
  obtain ⟨_, A, c, rfl, hkc, hcm, hb⟩ := hv
  obtain ⟨_, A', c', rfl, hkc', hcm', hb'⟩ := hv'
  unfold maxLen at hcm hcm'
  have HB := Lib.hid hb
  have HB' := Lib.hid hb'
  clear hb hb'
  go_enter Try.func49, Try.ntmps49
  go_wp2_with (at_make; refine wpList_mkn _ rfl _ _ 27 rfl w.heap.size 49 Try.underlying27 info_u32 _ _ _ _ (dl n + dl m + 1) (by rfl) (by rfl) (by omega) (by omega) (by omega) w (Below.refl _ _) (Nat.le_refl _) ?_; intro b w1 hlb1 _ hrow1 hbw1 _)
  go_loopw [6] (fun i wr => ∃ i0 : Nat, i0 ≤ dl n ∧ i = .int .i64 i0 ∧ RowU wr b 49 (dl n + dl m + 1) (dg (n % B ^ i0 * m)) ∧ Below w.heap.size w wr) (fun i _ => dl n - (intOf i).toNat)
  case atStart =>
    refine ⟨0, by omega, rfl, hrow1.congr fun t _ => ?_, hbw1⟩
    rw [Nat.pow_zero, Nat.mod_one, Nat.zero_mul]; unfold dg; simp
  case round =>
    obtain ⟨i, hi, rfl, hrow, hbw⟩ := hrel
    by_cases hlt : i < dl n
    · obtain ⟨ba, off, rfl, hlb, hbb, hcell⟩ := HB.out (by omega)
      have hca : Hid (∀ wx, Below w.heap.size w wx → wx.cell? ⟨ba, off + i, none⟩ = some (.int .u32 ((dg n i : Nat) : Int))) := fun wx hx => (hx.cell (p := ⟨ba, off + i, none⟩) hbb).trans (hcell i hlt)
      have hda : dg n i < 1000000000 := dg_lt n i
      clear hcell
      go_wp2
      go_loopw [7, 8] (fun cv jv wr => MulIn w b i n m cv jv wr) (fun _ jv _ => dl m + 1 - (intOf jv).toNat)
      case atStart =>
        refine .inl ⟨0, 0, dg (n % B ^ i * m), by omega, by omega, rfl, rfl, fun t _ => dg_lt _ _, fun _ _ _ => rfl, ?_, hrow, hbw⟩
        show _ = _
        rw [vs_dg, Nat.pow_zero, Nat.mod_one]; simp
      case round =>
        rcases hrel with ⟨j, c, g, hj, hc, rfl, rfl, hgB, hghi, hgv, hrow', hbw'⟩ | ⟨rfl, rfl, hrow', hbw'⟩
        · by_cases hjm : j < dl m
          · obtain ⟨bb, off', rfl, hlb', hbb', hcell'⟩ := HB'.out (by omega)
            have hc1 := hca.out wr hbw'
            have hc2 := (hbw'.cell (p := ⟨bb, off' + j, none⟩) hbb').trans (hcell' j hjm)
            have hc3 := hrow'.cell (i := i + j) (by omega)
            have hfz := hrow'.frozen (i + j)
            rw [hghi.out (i + j) (Nat.le_refl _) (by omega)] at hc3
            have hdb : dg m j < 1000000000 := dg_lt m j
            have hdt : dg (n % B ^ i * m) (i + j) < 1000000000 := dg_lt _ _
            obtain ⟨x, hxe⟩ : ∃ x, Hid (x = dg n i) := ⟨_, rfl⟩
            obtain ⟨y, hye⟩ : ∃ y, Hid (y = dg m j) := ⟨_, rfl⟩
            obtain ⟨t, hte⟩ : ∃ t, Hid (t = dg (n % B ^ i * m) (i + j)) := ⟨_, rfl⟩
            rw [← hxe.out] at hc1 hda
            rw [← hye.out] at hc2 hdb
            rw [← hte.out] at hc3 hdt
            have hmb := mul_bound hda hdb hdt hc
            have hm1 : ((x : Int) * y) ≤ 999999998000000001 := by have := hmb.1; omega
            have hm0 : 0 ≤ ((x : Int) * y) := by omega
            clear hmb hcell'
            go_wp2
            go_quiet (fail)
            go_wp2
            go_roundw
            case rel =>
              have hs := (mul_bound hda hdb hdt hc).2
              have h9 : (x * y + t + c) / 1000000000 < 1000000000 := by omega
              refine .inl ⟨j + 1, (x * y + t + c) / 1000000000, upd g (i + j) ((x * y + t + c) % 1000000000), by omega, h9, by go_num, by go_num, ?_, ?_, ?_, RowU.set (RowU.drewN hrow' _) (i + j) (by go_num), Below.setCell (hbw'.drewN _) hlb1 _⟩
              · intro t' ht'
                by_cases e : t' = i + j
                · subst e; rw [upd_same]; exact Nat.mod_lt _ B_pos
                · rw [upd_other g _ e]; exact hgB.out t' ht'
              · intro t' h1 h2
                rw [upd_other g _ (by omega)]; exact hghi.out t' (by omega) h2
              · have h1 := mul_step (g := g) (T := n % B ^ i * m) (x := x) (y := y) (c := c) (K := i + j) (s := x * y + t + c) (by rw [hte.out]) hgv.out
                show vs _ (i + (j + 1)) + _ * B ^ (i + (j + 1)) = _
                rw [show i + (j + 1) = i + j + 1 by omega, h1, ← mul_part, hxe.out, hye.out]
            case measure => simp [intOf]; omega
          · obtain rfl : j = dl m := by omega
            have hfz := hrow'.frozen (i + dl m)
            have hc3 := hrow'.cell (i := i + dl m) (by omega)
            have hT : n % B ^ i * m < B ^ (i + dl m) := by
              rw [Nat.pow_add]
              have h1 := Nat.mod_lt n (Bp_pos i)
              have h2 := lt_dl m
              rcases Nat.eq_zero_or_pos m with h0 | h0
              · subst h0; rw [Nat.mul_zero]; exact Nat.mul_pos (Bp_pos _) (Bp_pos _)
              · exact Nat.mul_lt_mul_of_lt_of_le h1 (Nat.le_of_lt h2) (Bp_pos _)
            have hg0 : g (i + dl m) = 0 := (hghi.out (i + dl m) (Nat.le_refl _) (by omega)).trans (dg_far hT)
            have HDN := Lib.hid (mul_done hgB.out hc (by omega) hghi.out hgv.out)
            rw [hg0] at hc3
            have HG := Lib.hid hg0
            clear hT hg0
            by_cases hc0 : 0 < c
            · go_wp2
              go_roundw
              case rel =>
                refine .inr ⟨by go_num, by go_num, RowU.congr (RowU.set hrow' (i + dl m) (z := c) (by go_num)) HDN.out, Below.setCell hbw' hlb1 _⟩
              case measure => simp [intOf]
            · obtain rfl : c = 0 := by omega
              go_wp2
              go_roundw
              case rel =>
                refine ⟨i + 1, by omega, by go_num, RowU.congr hrow' fun t ht => ?_, hbw'⟩
                rw [← HDN.out t ht]
                by_cases e : t = i + dl m
                · subst e; rw [upd_same, HG.out]
                · rw [upd_other g _ e]
              case measure => simp [intOf]; omega
        · go_wp2
          go_roundw
          case rel => exact ⟨i + 1, by omega, by go_num, hrow', hbw'⟩
          case measure => simp [intOf]; omega
    · obtain rfl : i = dl n := by omega
      have hT : Hid (n % B ^ dl n * m = n * m) := by show _ = _; rw [Nat.mod_eq_of_lt (lt_dl n)]
      rw [hT.out] at hrow
      have hlt2 : Hid (n * m < B ^ (dl n + dl m + 1)) := Nat.lt_of_lt_of_le (lt_dl _) (Nat.pow_le_pow_right B_pos (Nat.le_succ_of_le (dl_mul_le n m)))
      go_wp2_with fail
      refine (cut_any _ _ _ _ _ (hrow.limbs hlb1 (by omega) fun i _ => Nat.lt_trans (dg_lt _ i) (by decide)) hlt2.out (by omega)).mono ?_
      rintro e w' ⟨v', rfl, hnat, hb2⟩
      go_wp2
      go_ret
      exact ⟨v', rfl, hnat.lower hbw.size, hbw.trans (hb2.mono hbw.size)⟩

end Go.Proofs.Ytafhbipafbchcaa
