/-
 The writer: lists (printed by gen_codec.py).
-/
import Derived.Test.YtpbdkkoanedimaaGreatDoorHCWa
namespace Go.Proofs.YtpbdkkoanedimaaGreatDoor
open Go.Lib (hid)
open Go.RowKit AC
set_option linter.unusedVariables false
set_option linter.unusedSimpArgs false
set_option maxHeartbeats 2000000 in
set_option maxRecDepth 100000 in
theorem ls_target (n : Nat) (g : FuncId) (fi ca : Array Value) (w : World) (bw : Nat) (o : Option (List UInt8)) (A : Option Addr) (m c : Nat) (t : List UInt8) (h : Wst w bw o) (hrep : Rep w (· < bw) (.list (targetS n)) [.slice A m c] [t]) (hel : ElW g fi ca (targetS n) bw w) :
 Calls Tryz.prog 120 #[.pointer (some ⟨bw, 0, none⟩), .slice A m c, .func (.func g) fi ca] w (WRet bw w (put o t)) := by
 obtain ⟨he, hel⟩ := hel
 unfold Enters at he
 obtain ⟨A', m', c', us, tx, hl, hmc, hcm, ht, hcl, hrp⟩ := hrep
 injection hl with hl _
 injection hl with hl1 hl2 hl3
 subst hl1; subst hl2; subst hl3
 injection ht with ht _
 subst ht
 have hbw := h.lt
 have hsz : Shape.sz (targetS n) = 3 := sz_target
 unfold maxLen at hcm
 have HW := hid h
 have HE := hid hel
 have HCL := hid hcl
 have HRP := hid hrp
 have HSZ := hid hsz
 clear h hel hcl hrp hsz
 go_enter Tryz.func120, Tryz.ntmps120
 go_wp2_with fail
 refine (text_any _ bw o ⟨#[40]⟩ HW.out (by decide)).mono ?_
 rintro e w1 ⟨rfl, hr1, hf1⟩
 have I0 := hid (LInv.start (tx := tx) hr1 hf1)
 clear hr1 hf1
 go_wp2
 go_loopw [12] (fun iv wr => ∃ (k : Nat), k ≤ m ∧ iv = .int .i64 k ∧ Hid (LInv o tx bw w k wr)) (fun iv _ => m - (intOf iv).toNat)
 case atStart => exact ⟨0, by omega, rfl, I0⟩
 case round =>
  obtain ⟨k, hk, rfl, hI⟩ := hrel
  clear I0
  have hbwr : bw < wr.heap.size := by have := hI.out.2.1.size; omega
  by_cases hlt : k < m
  ·obtain ⟨b, off, hA, hD, hblt, hcells⟩ := HCL.out (by omega)
   subst hA
   have hrk := HRP.out k hlt
   obtain ⟨z0n, z1A, z1k, z1c, z2A, z2k, z2c, hus⟩ := ty_target hrk.ty
   have hsz := HSZ.out
   have e0 : wr.cell? ⟨b, off + k * 3, none⟩ = some (.int .i64 z0n) := by
    have h9 := (hI.out.2.1.cell (p := ⟨b, off + k * Shape.sz (targetS n) + 0, none⟩) hD).trans (hcells k hlt 0 (.int .i64 z0n) (by rw [hus]; rfl))
    rw [hsz] at h9
    simpa using h9
   have e1 : wr.cell? ⟨b, off + k * 3 + 1, none⟩ = some (.slice z1A z1k z1c) := by
    have h9 := (hI.out.2.1.cell (p := ⟨b, off + k * Shape.sz (targetS n) + 1, none⟩) hD).trans (hcells k hlt 1 (.slice z1A z1k z1c) (by rw [hus]; rfl))
    rw [hsz] at h9
    simpa using h9
   have e2 : wr.cell? ⟨b, off + k * 3 + 2, none⟩ = some (.slice z2A z2k z2c) := by
    have h9 := (hI.out.2.1.cell (p := ⟨b, off + k * Shape.sz (targetS n) + 2, none⟩) hD).trans (hcells k hlt 2 (.slice z2A z2k z2c) (by rw [hus]; rfl))
    rw [hsz] at h9
    simpa using h9
   have c2 := hI.out.1.cell
   rw [hus] at hrk
   have HRK := hid (hrk.wfr hI.out.2)
   clear hus hrk hcells hsz
   cases hf : listed o tx k with
   | none =>
    rw [hf] at c2
    have HF := hid hf
    clear hf
    go_wp2
    go_end0
    exact hI.out.full (n := m) (by omega) HF.out ((Wfr.refl bw wr).allocs hbwr (.cells #[.int .i64 z0n, .slice z1A z1k z1c, .slice z2A z2k z2c] 71)) (by have := (hI.out.1.alloc (.cells #[.int .i64 z0n, .slice z1A z1k z1c, .slice z2A z2k z2c] 71)); rw [HF.out] at this; exact this)
   | some l =>
    rw [hf] at c2
    have HF := hid hf
    clear hf
    by_cases hk0 : k = 0
    ·subst hk0
     simp only [Nat.zero_mul, Nat.add_zero] at e0 e1 e2
     have key := HE.out (wr.alloc (.cells #[.int .i64 z0n, .slice z1A z1k z1c, .slice z2A z2k z2c] 71)) (listed o tx 0) [.int .i64 z0n, .slice z1A z1k z1c, .slice z2A z2k z2c] (tx 0) (hI.out.2.trans ((Wfr.refl bw wr).allocs hbwr (.cells #[.int .i64 z0n, .slice z1A z1k z1c, .slice z2A z2k z2c] 71))) (hI.out.1.alloc (.cells #[.int .i64 z0n, .slice z1A z1k z1c, .slice z2A z2k z2c] 71)) (HRK.out.allocW _)
     rw [val_target] at key
     have KEY := hid key
     clear key
     go_wp2_with fail
     refine (show Calls Tryz.prog g (fi ++ #[.agg #[.int .i64 z0n, .slice z1A z1k z1c, .slice z2A z2k z2c]] ++ ca) _ _ from KEY.out).mono ?_
     rintro e w2 ⟨rfl, hw2, hf2⟩
     have HI2 := hid (hI.out.first (((Wfr.refl bw wr).allocs hbwr (.cells #[.int .i64 z0n, .slice z1A z1k z1c, .slice z2A z2k z2c] 71)).trans hf2) hw2)
     clear hw2 hf2
     go_wp2
     go_roundw
     case rel => exact ⟨1, by omega, by go_num, HI2⟩
     case measure => simp [intOf]; omega
    ·have hkp : decide (0 < (k : Int)) = true := by simp; omega
     go_wp2_with fail
     refine (text_any _ bw (listed o tx k) ⟨#[32]⟩ (hI.out.1.alloc (.cells #[.int .i64 z0n, .slice z1A z1k z1c, .slice z2A z2k z2c] 71)) (by decide)).mono ?_
     rintro e w2 ⟨rfl, hw2, hf2⟩
     have HF2 := hid hf2
     have hbx := HF2.out.2 wr.heap.size _ 71 (by omega) (by decide) (Bk.new wr 71 #[.int .i64 z0n, .slice z1A z1k z1c, .slice z2A z2k z2c])
     have b0 := hbx.cell 0
     have b1 := hbx.cell 1
     have b2 := hbx.cell 2
     simp only [gq] at b0 b1 b2
     clear hbx
     have key := HE.out w2 (put (listed o tx k) [32]) [.int .i64 z0n, .slice z1A z1k z1c, .slice z2A z2k z2c] (tx k) (hI.out.2.trans (((Wfr.refl bw wr).allocs hbwr (.cells #[.int .i64 z0n, .slice z1A z1k z1c, .slice z2A z2k z2c] 71)).trans hf2)) hw2 ((HRK.out.allocW _).wfr hf2)
     rw [val_target] at key
     have KEY := hid key
     clear key hw2 hf2
     go_wp2_with fail
     refine (show Calls Tryz.prog g (fi ++ #[.agg #[.int .i64 z0n, .slice z1A z1k z1c, .slice z2A z2k z2c]] ++ ca) _ _ from KEY.out).mono ?_
     rintro e w3 ⟨rfl, hw3, hf3⟩
     have HI2 := hid (hI.out.next (by omega) ((((Wfr.refl bw wr).allocs hbwr (.cells #[.int .i64 z0n, .slice z1A z1k z1c, .slice z2A z2k z2c] 71)).trans HF2.out).trans hf3) hw3)
     clear hw3 hf3
     go_wp2
     go_roundw
     case rel => exact ⟨k + 1, by omega, by go_num, HI2⟩
     case measure => simp [intOf]; omega
  ·obtain rfl : k = m := by omega
   go_wp2_with fail
   refine (text_any _ bw (listed o tx k) ⟨#[41]⟩ hI.out.1 (by decide)).mono ?_
   rintro e w2 ⟨rfl, hr2, hf2⟩
   go_wp2
   go_end0
   exact hI.out.last hf2 hr2
set_option maxHeartbeats 2000000 in
set_option maxRecDepth 100000 in
theorem ls_axiomUse (n : Nat) (g : FuncId) (fi ca : Array Value) (w : World) (bw : Nat) (o : Option (List UInt8)) (A : Option Addr) (m c : Nat) (t : List UInt8) (h : Wst w bw o) (hrep : Rep w (· < bw) (.list (axuS n)) [.slice A m c] [t]) (hel : ElW g fi ca (axuS n) bw w) :
 Calls Tryz.prog 132 #[.pointer (some ⟨bw, 0, none⟩), .slice A m c, .func (.func g) fi ca] w (WRet bw w (put o t)) := by
 obtain ⟨he, hel⟩ := hel
 unfold Enters at he
 obtain ⟨A', m', c', us, tx, hl, hmc, hcm, ht, hcl, hrp⟩ := hrep
 injection hl with hl _
 injection hl with hl1 hl2 hl3
 subst hl1; subst hl2; subst hl3
 injection ht with ht _
 subst ht
 have hbw := h.lt
 have hsz : Shape.sz (axuS n) = 13 := sz_axiomUse
 unfold maxLen at hcm
 have HW := hid h
 have HE := hid hel
 have HCL := hid hcl
 have HRP := hid hrp
 have HSZ := hid hsz
 clear h hel hcl hrp hsz
 go_enter Tryz.func132, Tryz.ntmps132
 go_wp2_with fail
 refine (text_any _ bw o ⟨#[40]⟩ HW.out (by decide)).mono ?_
 rintro e w1 ⟨rfl, hr1, hf1⟩
 have I0 := hid (LInv.start (tx := tx) hr1 hf1)
 clear hr1 hf1
 go_wp2
 go_loopw [12] (fun iv wr => ∃ (k : Nat), k ≤ m ∧ iv = .int .i64 k ∧ Hid (LInv o tx bw w k wr)) (fun iv _ => m - (intOf iv).toNat)
 case atStart => exact ⟨0, by omega, rfl, I0⟩
 case round =>
  obtain ⟨k, hk, rfl, hI⟩ := hrel
  clear I0
  have hbwr : bw < wr.heap.size := by have := hI.out.2.1.size; omega
  by_cases hlt : k < m
  ·obtain ⟨b, off, hA, hD, hblt, hcells⟩ := HCL.out (by omega)
   subst hA
   have hrk := HRP.out k hlt
   obtain ⟨z0_0n, z0_1_0n, z0_1_1A, z0_1_1k, z0_1_1c, z0_2_0n, z0_2_1A, z0_2_1k, z0_2_1c, z0_3n, z1b, z1A, z1k, z1c, z1D, z1l, z1d, z2_0A, z2_0k, z2_0c, z2_1A, z2_1k, z2_1c, z3A, z3k, z3c, z4A, z4k, z4c, hus⟩ := ty_axiomUse hrk.ty
   have hsz := HSZ.out
   have e0 : wr.cell? ⟨b, off + k * 13, none⟩ = some (.int .i64 z0_0n) := by
    have h9 := (hI.out.2.1.cell (p := ⟨b, off + k * Shape.sz (axuS n) + 0, none⟩) hD).trans (hcells k hlt 0 (.int .i64 z0_0n) (by rw [hus]; rfl))
    rw [hsz] at h9
    simpa using h9
   have e1 : wr.cell? ⟨b, off + k * 13 + 1, none⟩ = some (.int .i64 z0_1_0n) := by
    have h9 := (hI.out.2.1.cell (p := ⟨b, off + k * Shape.sz (axuS n) + 1, none⟩) hD).trans (hcells k hlt 1 (.int .i64 z0_1_0n) (by rw [hus]; rfl))
    rw [hsz] at h9
    simpa using h9
   have e2 : wr.cell? ⟨b, off + k * 13 + 2, none⟩ = some (.slice z0_1_1A z0_1_1k z0_1_1c) := by
    have h9 := (hI.out.2.1.cell (p := ⟨b, off + k * Shape.sz (axuS n) + 2, none⟩) hD).trans (hcells k hlt 2 (.slice z0_1_1A z0_1_1k z0_1_1c) (by rw [hus]; rfl))
    rw [hsz] at h9
    simpa using h9
   have e3 : wr.cell? ⟨b, off + k * 13 + 3, none⟩ = some (.int .i64 z0_2_0n) := by
    have h9 := (hI.out.2.1.cell (p := ⟨b, off + k * Shape.sz (axuS n) + 3, none⟩) hD).trans (hcells k hlt 3 (.int .i64 z0_2_0n) (by rw [hus]; rfl))
    rw [hsz] at h9
    simpa using h9
   have e4 : wr.cell? ⟨b, off + k * 13 + 4, none⟩ = some (.slice z0_2_1A z0_2_1k z0_2_1c) := by
    have h9 := (hI.out.2.1.cell (p := ⟨b, off + k * Shape.sz (axuS n) + 4, none⟩) hD).trans (hcells k hlt 4 (.slice z0_2_1A z0_2_1k z0_2_1c) (by rw [hus]; rfl))
    rw [hsz] at h9
    simpa using h9
   have e5 : wr.cell? ⟨b, off + k * 13 + 5, none⟩ = some (.int .i64 z0_3n) := by
    have h9 := (hI.out.2.1.cell (p := ⟨b, off + k * Shape.sz (axuS n) + 5, none⟩) hD).trans (hcells k hlt 5 (.int .i64 z0_3n) (by rw [hus]; rfl))
    rw [hsz] at h9
    simpa using h9
   have e6 : wr.cell? ⟨b, off + k * 13 + 6, none⟩ = some (.bool z1b) := by
    have h9 := (hI.out.2.1.cell (p := ⟨b, off + k * Shape.sz (axuS n) + 6, none⟩) hD).trans (hcells k hlt 6 (.bool z1b) (by rw [hus]; rfl))
    rw [hsz] at h9
    simpa using h9
   have e7 : wr.cell? ⟨b, off + k * 13 + 7, none⟩ = some (.slice z1A z1k z1c) := by
    have h9 := (hI.out.2.1.cell (p := ⟨b, off + k * Shape.sz (axuS n) + 7, none⟩) hD).trans (hcells k hlt 7 (.slice z1A z1k z1c) (by rw [hus]; rfl))
    rw [hsz] at h9
    simpa using h9
   have e8 : wr.cell? ⟨b, off + k * 13 + 8, none⟩ = some (.slice z1D z1l z1d) := by
    have h9 := (hI.out.2.1.cell (p := ⟨b, off + k * Shape.sz (axuS n) + 8, none⟩) hD).trans (hcells k hlt 8 (.slice z1D z1l z1d) (by rw [hus]; rfl))
    rw [hsz] at h9
    simpa using h9
   have e9 : wr.cell? ⟨b, off + k * 13 + 9, none⟩ = some (.slice z2_0A z2_0k z2_0c) := by
    have h9 := (hI.out.2.1.cell (p := ⟨b, off + k * Shape.sz (axuS n) + 9, none⟩) hD).trans (hcells k hlt 9 (.slice z2_0A z2_0k z2_0c) (by rw [hus]; rfl))
    rw [hsz] at h9
    simpa using h9
   have e10 : wr.cell? ⟨b, off + k * 13 + 10, none⟩ = some (.slice z2_1A z2_1k z2_1c) := by
    have h9 := (hI.out.2.1.cell (p := ⟨b, off + k * Shape.sz (axuS n) + 10, none⟩) hD).trans (hcells k hlt 10 (.slice z2_1A z2_1k z2_1c) (by rw [hus]; rfl))
    rw [hsz] at h9
    simpa using h9
   have e11 : wr.cell? ⟨b, off + k * 13 + 11, none⟩ = some (.slice z3A z3k z3c) := by
    have h9 := (hI.out.2.1.cell (p := ⟨b, off + k * Shape.sz (axuS n) + 11, none⟩) hD).trans (hcells k hlt 11 (.slice z3A z3k z3c) (by rw [hus]; rfl))
    rw [hsz] at h9
    simpa using h9
   have e12 : wr.cell? ⟨b, off + k * 13 + 12, none⟩ = some (.slice z4A z4k z4c) := by
    have h9 := (hI.out.2.1.cell (p := ⟨b, off + k * Shape.sz (axuS n) + 12, none⟩) hD).trans (hcells k hlt 12 (.slice z4A z4k z4c) (by rw [hus]; rfl))
    rw [hsz] at h9
    simpa using h9
   have c2 := hI.out.1.cell
   rw [hus] at hrk
   have HRK := hid (hrk.wfr hI.out.2)
   clear hus hrk hcells hsz
   cases hf : listed o tx k with
   | none =>
    rw [hf] at c2
    have HF := hid hf
    clear hf
    go_wp2
    go_end0
    exact hI.out.full (n := m) (by omega) HF.out ((Wfr.refl bw wr).allocs hbwr (.cells #[.int .i64 z0_0n, .int .i64 z0_1_0n, .slice z0_1_1A z0_1_1k z0_1_1c, .int .i64 z0_2_0n, .slice z0_2_1A z0_2_1k z0_2_1c, .int .i64 z0_3n, .bool z1b, .slice z1A z1k z1c, .slice z1D z1l z1d, .slice z2_0A z2_0k z2_0c, .slice z2_1A z2_1k z2_1c, .slice z3A z3k z3c, .slice z4A z4k z4c] 136)) (by have := (hI.out.1.alloc (.cells #[.int .i64 z0_0n, .int .i64 z0_1_0n, .slice z0_1_1A z0_1_1k z0_1_1c, .int .i64 z0_2_0n, .slice z0_2_1A z0_2_1k z0_2_1c, .int .i64 z0_3n, .bool z1b, .slice z1A z1k z1c, .slice z1D z1l z1d, .slice z2_0A z2_0k z2_0c, .slice z2_1A z2_1k z2_1c, .slice z3A z3k z3c, .slice z4A z4k z4c] 136)); rw [HF.out] at this; exact this)
   | some l =>
    rw [hf] at c2
    have HF := hid hf
    clear hf
    by_cases hk0 : k = 0
    ·subst hk0
     simp only [Nat.zero_mul, Nat.add_zero] at e0 e1 e2 e3 e4 e5 e6 e7 e8 e9 e10 e11 e12
     have key := HE.out (wr.alloc (.cells #[.int .i64 z0_0n, .int .i64 z0_1_0n, .slice z0_1_1A z0_1_1k z0_1_1c, .int .i64 z0_2_0n, .slice z0_2_1A z0_2_1k z0_2_1c, .int .i64 z0_3n, .bool z1b, .slice z1A z1k z1c, .slice z1D z1l z1d, .slice z2_0A z2_0k z2_0c, .slice z2_1A z2_1k z2_1c, .slice z3A z3k z3c, .slice z4A z4k z4c] 136)) (listed o tx 0) [.int .i64 z0_0n, .int .i64 z0_1_0n, .slice z0_1_1A z0_1_1k z0_1_1c, .int .i64 z0_2_0n, .slice z0_2_1A z0_2_1k z0_2_1c, .int .i64 z0_3n, .bool z1b, .slice z1A z1k z1c, .slice z1D z1l z1d, .slice z2_0A z2_0k z2_0c, .slice z2_1A z2_1k z2_1c, .slice z3A z3k z3c, .slice z4A z4k z4c] (tx 0) (hI.out.2.trans ((Wfr.refl bw wr).allocs hbwr (.cells #[.int .i64 z0_0n, .int .i64 z0_1_0n, .slice z0_1_1A z0_1_1k z0_1_1c, .int .i64 z0_2_0n, .slice z0_2_1A z0_2_1k z0_2_1c, .int .i64 z0_3n, .bool z1b, .slice z1A z1k z1c, .slice z1D z1l z1d, .slice z2_0A z2_0k z2_0c, .slice z2_1A z2_1k z2_1c, .slice z3A z3k z3c, .slice z4A z4k z4c] 136))) (hI.out.1.alloc (.cells #[.int .i64 z0_0n, .int .i64 z0_1_0n, .slice z0_1_1A z0_1_1k z0_1_1c, .int .i64 z0_2_0n, .slice z0_2_1A z0_2_1k z0_2_1c, .int .i64 z0_3n, .bool z1b, .slice z1A z1k z1c, .slice z1D z1l z1d, .slice z2_0A z2_0k z2_0c, .slice z2_1A z2_1k z2_1c, .slice z3A z3k z3c, .slice z4A z4k z4c] 136)) (HRK.out.allocW _)
     rw [val_axiomUse] at key
     have KEY := hid key
     clear key
     go_wp2_with fail
     refine (show Calls Tryz.prog g (fi ++ #[.agg #[.int .i64 z0_0n, .int .i64 z0_1_0n, .slice z0_1_1A z0_1_1k z0_1_1c, .int .i64 z0_2_0n, .slice z0_2_1A z0_2_1k z0_2_1c, .int .i64 z0_3n, .bool z1b, .slice z1A z1k z1c, .slice z1D z1l z1d, .slice z2_0A z2_0k z2_0c, .slice z2_1A z2_1k z2_1c, .slice z3A z3k z3c, .slice z4A z4k z4c]] ++ ca) _ _ from KEY.out).mono ?_
     rintro e w2 ⟨rfl, hw2, hf2⟩
     have HI2 := hid (hI.out.first (((Wfr.refl bw wr).allocs hbwr (.cells #[.int .i64 z0_0n, .int .i64 z0_1_0n, .slice z0_1_1A z0_1_1k z0_1_1c, .int .i64 z0_2_0n, .slice z0_2_1A z0_2_1k z0_2_1c, .int .i64 z0_3n, .bool z1b, .slice z1A z1k z1c, .slice z1D z1l z1d, .slice z2_0A z2_0k z2_0c, .slice z2_1A z2_1k z2_1c, .slice z3A z3k z3c, .slice z4A z4k z4c] 136)).trans hf2) hw2)
     clear hw2 hf2
     go_wp2
     go_roundw
     case rel => exact ⟨1, by omega, by go_num, HI2⟩
     case measure => simp [intOf]; omega
    ·have hkp : decide (0 < (k : Int)) = true := by simp; omega
     go_wp2_with fail
     refine (text_any _ bw (listed o tx k) ⟨#[32]⟩ (hI.out.1.alloc (.cells #[.int .i64 z0_0n, .int .i64 z0_1_0n, .slice z0_1_1A z0_1_1k z0_1_1c, .int .i64 z0_2_0n, .slice z0_2_1A z0_2_1k z0_2_1c, .int .i64 z0_3n, .bool z1b, .slice z1A z1k z1c, .slice z1D z1l z1d, .slice z2_0A z2_0k z2_0c, .slice z2_1A z2_1k z2_1c, .slice z3A z3k z3c, .slice z4A z4k z4c] 136)) (by decide)).mono ?_
     rintro e w2 ⟨rfl, hw2, hf2⟩
     have HF2 := hid hf2
     have hbx := HF2.out.2 wr.heap.size _ 136 (by omega) (by decide) (Bk.new wr 136 #[.int .i64 z0_0n, .int .i64 z0_1_0n, .slice z0_1_1A z0_1_1k z0_1_1c, .int .i64 z0_2_0n, .slice z0_2_1A z0_2_1k z0_2_1c, .int .i64 z0_3n, .bool z1b, .slice z1A z1k z1c, .slice z1D z1l z1d, .slice z2_0A z2_0k z2_0c, .slice z2_1A z2_1k z2_1c, .slice z3A z3k z3c, .slice z4A z4k z4c])
     have b0 := hbx.cell 0
     have b1 := hbx.cell 1
     have b2 := hbx.cell 2
     have b3 := hbx.cell 3
     have b4 := hbx.cell 4
     have b5 := hbx.cell 5
     have b6 := hbx.cell 6
     have b7 := hbx.cell 7
     have b8 := hbx.cell 8
     have b9 := hbx.cell 9
     have b10 := hbx.cell 10
     have b11 := hbx.cell 11
     have b12 := hbx.cell 12
     simp only [gq] at b0 b1 b2 b3 b4 b5 b6 b7 b8 b9 b10 b11 b12
     clear hbx
     have key := HE.out w2 (put (listed o tx k) [32]) [.int .i64 z0_0n, .int .i64 z0_1_0n, .slice z0_1_1A z0_1_1k z0_1_1c, .int .i64 z0_2_0n, .slice z0_2_1A z0_2_1k z0_2_1c, .int .i64 z0_3n, .bool z1b, .slice z1A z1k z1c, .slice z1D z1l z1d, .slice z2_0A z2_0k z2_0c, .slice z2_1A z2_1k z2_1c, .slice z3A z3k z3c, .slice z4A z4k z4c] (tx k) (hI.out.2.trans (((Wfr.refl bw wr).allocs hbwr (.cells #[.int .i64 z0_0n, .int .i64 z0_1_0n, .slice z0_1_1A z0_1_1k z0_1_1c, .int .i64 z0_2_0n, .slice z0_2_1A z0_2_1k z0_2_1c, .int .i64 z0_3n, .bool z1b, .slice z1A z1k z1c, .slice z1D z1l z1d, .slice z2_0A z2_0k z2_0c, .slice z2_1A z2_1k z2_1c, .slice z3A z3k z3c, .slice z4A z4k z4c] 136)).trans hf2)) hw2 ((HRK.out.allocW _).wfr hf2)
     rw [val_axiomUse] at key
     have KEY := hid key
     clear key hw2 hf2
     go_wp2_with fail
     refine (show Calls Tryz.prog g (fi ++ #[.agg #[.int .i64 z0_0n, .int .i64 z0_1_0n, .slice z0_1_1A z0_1_1k z0_1_1c, .int .i64 z0_2_0n, .slice z0_2_1A z0_2_1k z0_2_1c, .int .i64 z0_3n, .bool z1b, .slice z1A z1k z1c, .slice z1D z1l z1d, .slice z2_0A z2_0k z2_0c, .slice z2_1A z2_1k z2_1c, .slice z3A z3k z3c, .slice z4A z4k z4c]] ++ ca) _ _ from KEY.out).mono ?_
     rintro e w3 ⟨rfl, hw3, hf3⟩
     have HI2 := hid (hI.out.next (by omega) ((((Wfr.refl bw wr).allocs hbwr (.cells #[.int .i64 z0_0n, .int .i64 z0_1_0n, .slice z0_1_1A z0_1_1k z0_1_1c, .int .i64 z0_2_0n, .slice z0_2_1A z0_2_1k z0_2_1c, .int .i64 z0_3n, .bool z1b, .slice z1A z1k z1c, .slice z1D z1l z1d, .slice z2_0A z2_0k z2_0c, .slice z2_1A z2_1k z2_1c, .slice z3A z3k z3c, .slice z4A z4k z4c] 136)).trans HF2.out).trans hf3) hw3)
     clear hw3 hf3
     go_wp2
     go_roundw
     case rel => exact ⟨k + 1, by omega, by go_num, HI2⟩
     case measure => simp [intOf]; omega
  ·obtain rfl : k = m := by omega
   go_wp2_with fail
   refine (text_any _ bw (listed o tx k) ⟨#[41]⟩ hI.out.1 (by decide)).mono ?_
   rintro e w2 ⟨rfl, hr2, hf2⟩
   go_wp2
   go_end0
   exact hI.out.last hf2 hr2
set_option maxHeartbeats 2000000 in
set_option maxRecDepth 100000 in
theorem ls_node (n : Nat) (g : FuncId) (fi ca : Array Value) (w : World) (bw : Nat) (o : Option (List UInt8)) (A : Option Addr) (m c : Nat) (t : List UInt8) (h : Wst w bw o) (hrep : Rep w (· < bw) (.list (nodeS n)) [.slice A m c] [t]) (hel : ElW g fi ca (nodeS n) bw w) :
 Calls Tryz.prog 55 #[.pointer (some ⟨bw, 0, none⟩), .slice A m c, .func (.func g) fi ca] w (WRet bw w (put o t)) := by
 obtain ⟨he, hel⟩ := hel
 unfold Enters at he
 obtain ⟨A', m', c', us, tx, hl, hmc, hcm, ht, hcl, hrp⟩ := hrep
 injection hl with hl _
 injection hl with hl1 hl2 hl3
 subst hl1; subst hl2; subst hl3
 injection ht with ht _
 subst ht
 have hbw := h.lt
 have hsz : Shape.sz (nodeS n) = 11 := sz_node
 unfold maxLen at hcm
 have HW := hid h
 have HE := hid hel
 have HCL := hid hcl
 have HRP := hid hrp
 have HSZ := hid hsz
 clear h hel hcl hrp hsz
 go_enter Tryz.func55, Tryz.ntmps55
 go_wp2_with fail
 refine (text_any _ bw o ⟨#[40]⟩ HW.out (by decide)).mono ?_
 rintro e w1 ⟨rfl, hr1, hf1⟩
 have I0 := hid (LInv.start (tx := tx) hr1 hf1)
 clear hr1 hf1
 go_wp2
 go_loopw [12] (fun iv wr => ∃ (k : Nat), k ≤ m ∧ iv = .int .i64 k ∧ Hid (LInv o tx bw w k wr)) (fun iv _ => m - (intOf iv).toNat)
 case atStart => exact ⟨0, by omega, rfl, I0⟩
 case round =>
  obtain ⟨k, hk, rfl, hI⟩ := hrel
  clear I0
  have hbwr : bw < wr.heap.size := by have := hI.out.2.1.size; omega
  by_cases hlt : k < m
  ·obtain ⟨b, off, hA, hD, hblt, hcells⟩ := HCL.out (by omega)
   subst hA
   have hrk := HRP.out k hlt
   obtain ⟨z0n, z1n, z2b, z3A, z3k, z3c, z4A, z4k, z4c, z5A, z5k, z5c, z6A, z6k, z6c, z7A, z7k, z7c, z8A, z8k, z8c, z9A, z9k, z9c, a0, a1, a2, hus⟩ := ty_node hrk.ty
   have hsz := HSZ.out
   have e0 : wr.cell? ⟨b, off + k * 11, none⟩ = some (.int .i64 z0n) := by
    have h9 := (hI.out.2.1.cell (p := ⟨b, off + k * Shape.sz (nodeS n) + 0, none⟩) hD).trans (hcells k hlt 0 (.int .i64 z0n) (by rw [hus]; rfl))
    rw [hsz] at h9
    simpa using h9
   have e1 : wr.cell? ⟨b, off + k * 11 + 1, none⟩ = some (.int .i64 z1n) := by
    have h9 := (hI.out.2.1.cell (p := ⟨b, off + k * Shape.sz (nodeS n) + 1, none⟩) hD).trans (hcells k hlt 1 (.int .i64 z1n) (by rw [hus]; rfl))
    rw [hsz] at h9
    simpa using h9
   have e2 : wr.cell? ⟨b, off + k * 11 + 2, none⟩ = some (.bool z2b) := by
    have h9 := (hI.out.2.1.cell (p := ⟨b, off + k * Shape.sz (nodeS n) + 2, none⟩) hD).trans (hcells k hlt 2 (.bool z2b) (by rw [hus]; rfl))
    rw [hsz] at h9
    simpa using h9
   have e3 : wr.cell? ⟨b, off + k * 11 + 3, none⟩ = some (.slice z3A z3k z3c) := by
    have h9 := (hI.out.2.1.cell (p := ⟨b, off + k * Shape.sz (nodeS n) + 3, none⟩) hD).trans (hcells k hlt 3 (.slice z3A z3k z3c) (by rw [hus]; rfl))
    rw [hsz] at h9
    simpa using h9
   have e4 : wr.cell? ⟨b, off + k * 11 + 4, none⟩ = some (.slice z4A z4k z4c) := by
    have h9 := (hI.out.2.1.cell (p := ⟨b, off + k * Shape.sz (nodeS n) + 4, none⟩) hD).trans (hcells k hlt 4 (.slice z4A z4k z4c) (by rw [hus]; rfl))
    rw [hsz] at h9
    simpa using h9
   have e5 : wr.cell? ⟨b, off + k * 11 + 5, none⟩ = some (.slice z5A z5k z5c) := by
    have h9 := (hI.out.2.1.cell (p := ⟨b, off + k * Shape.sz (nodeS n) + 5, none⟩) hD).trans (hcells k hlt 5 (.slice z5A z5k z5c) (by rw [hus]; rfl))
    rw [hsz] at h9
    simpa using h9
   have e6 : wr.cell? ⟨b, off + k * 11 + 6, none⟩ = some (.slice z6A z6k z6c) := by
    have h9 := (hI.out.2.1.cell (p := ⟨b, off + k * Shape.sz (nodeS n) + 6, none⟩) hD).trans (hcells k hlt 6 (.slice z6A z6k z6c) (by rw [hus]; rfl))
    rw [hsz] at h9
    simpa using h9
   have e7 : wr.cell? ⟨b, off + k * 11 + 7, none⟩ = some (.slice z7A z7k z7c) := by
    have h9 := (hI.out.2.1.cell (p := ⟨b, off + k * Shape.sz (nodeS n) + 7, none⟩) hD).trans (hcells k hlt 7 (.slice z7A z7k z7c) (by rw [hus]; rfl))
    rw [hsz] at h9
    simpa using h9
   have e8 : wr.cell? ⟨b, off + k * 11 + 8, none⟩ = some (.slice z8A z8k z8c) := by
    have h9 := (hI.out.2.1.cell (p := ⟨b, off + k * Shape.sz (nodeS n) + 8, none⟩) hD).trans (hcells k hlt 8 (.slice z8A z8k z8c) (by rw [hus]; rfl))
    rw [hsz] at h9
    simpa using h9
   have e9 : wr.cell? ⟨b, off + k * 11 + 9, none⟩ = some (.slice z9A z9k z9c) := by
    have h9 := (hI.out.2.1.cell (p := ⟨b, off + k * Shape.sz (nodeS n) + 9, none⟩) hD).trans (hcells k hlt 9 (.slice z9A z9k z9c) (by rw [hus]; rfl))
    rw [hsz] at h9
    simpa using h9
   have e10 : wr.cell? ⟨b, off + k * 11 + 10, none⟩ = some (.slice a0 a1 a2) := by
    have h9 := (hI.out.2.1.cell (p := ⟨b, off + k * Shape.sz (nodeS n) + 10, none⟩) hD).trans (hcells k hlt 10 (.slice a0 a1 a2) (by rw [hus]; rfl))
    rw [hsz] at h9
    simpa using h9
   have c2 := hI.out.1.cell
   rw [hus] at hrk
   have HRK := hid (hrk.wfr hI.out.2)
   clear hus hrk hcells hsz
   cases hf : listed o tx k with
   | none =>
    rw [hf] at c2
    have HF := hid hf
    clear hf
    go_wp2
    go_end0
    exact hI.out.full (n := m) (by omega) HF.out ((Wfr.refl bw wr).allocs hbwr (.cells #[.int .i64 z0n, .int .i64 z1n, .bool z2b, .slice z3A z3k z3c, .slice z4A z4k z4c, .slice z5A z5k z5c, .slice z6A z6k z6c, .slice z7A z7k z7c, .slice z8A z8k z8c, .slice z9A z9k z9c, .slice a0 a1 a2] 55)) (by have := (hI.out.1.alloc (.cells #[.int .i64 z0n, .int .i64 z1n, .bool z2b, .slice z3A z3k z3c, .slice z4A z4k z4c, .slice z5A z5k z5c, .slice z6A z6k z6c, .slice z7A z7k z7c, .slice z8A z8k z8c, .slice z9A z9k z9c, .slice a0 a1 a2] 55)); rw [HF.out] at this; exact this)
   | some l =>
    rw [hf] at c2
    have HF := hid hf
    clear hf
    by_cases hk0 : k = 0
    ·subst hk0
     simp only [Nat.zero_mul, Nat.add_zero] at e0 e1 e2 e3 e4 e5 e6 e7 e8 e9 e10
     have key := HE.out (wr.alloc (.cells #[.int .i64 z0n, .int .i64 z1n, .bool z2b, .slice z3A z3k z3c, .slice z4A z4k z4c, .slice z5A z5k z5c, .slice z6A z6k z6c, .slice z7A z7k z7c, .slice z8A z8k z8c, .slice z9A z9k z9c, .slice a0 a1 a2] 55)) (listed o tx 0) [.int .i64 z0n, .int .i64 z1n, .bool z2b, .slice z3A z3k z3c, .slice z4A z4k z4c, .slice z5A z5k z5c, .slice z6A z6k z6c, .slice z7A z7k z7c, .slice z8A z8k z8c, .slice z9A z9k z9c, .slice a0 a1 a2] (tx 0) (hI.out.2.trans ((Wfr.refl bw wr).allocs hbwr (.cells #[.int .i64 z0n, .int .i64 z1n, .bool z2b, .slice z3A z3k z3c, .slice z4A z4k z4c, .slice z5A z5k z5c, .slice z6A z6k z6c, .slice z7A z7k z7c, .slice z8A z8k z8c, .slice z9A z9k z9c, .slice a0 a1 a2] 55))) (hI.out.1.alloc (.cells #[.int .i64 z0n, .int .i64 z1n, .bool z2b, .slice z3A z3k z3c, .slice z4A z4k z4c, .slice z5A z5k z5c, .slice z6A z6k z6c, .slice z7A z7k z7c, .slice z8A z8k z8c, .slice z9A z9k z9c, .slice a0 a1 a2] 55)) (HRK.out.allocW _)
     rw [val_node] at key
     have KEY := hid key
     clear key
     go_wp2_with fail
     refine (show Calls Tryz.prog g (fi ++ #[.agg #[.int .i64 z0n, .int .i64 z1n, .bool z2b, .slice z3A z3k z3c, .slice z4A z4k z4c, .slice z5A z5k z5c, .slice z6A z6k z6c, .slice z7A z7k z7c, .slice z8A z8k z8c, .slice z9A z9k z9c, .slice a0 a1 a2]] ++ ca) _ _ from KEY.out).mono ?_
     rintro e w2 ⟨rfl, hw2, hf2⟩
     have HI2 := hid (hI.out.first (((Wfr.refl bw wr).allocs hbwr (.cells #[.int .i64 z0n, .int .i64 z1n, .bool z2b, .slice z3A z3k z3c, .slice z4A z4k z4c, .slice z5A z5k z5c, .slice z6A z6k z6c, .slice z7A z7k z7c, .slice z8A z8k z8c, .slice z9A z9k z9c, .slice a0 a1 a2] 55)).trans hf2) hw2)
     clear hw2 hf2
     go_wp2
     go_roundw
     case rel => exact ⟨1, by omega, by go_num, HI2⟩
     case measure => simp [intOf]; omega
    ·have hkp : decide (0 < (k : Int)) = true := by simp; omega
     go_wp2_with fail
     refine (text_any _ bw (listed o tx k) ⟨#[32]⟩ (hI.out.1.alloc (.cells #[.int .i64 z0n, .int .i64 z1n, .bool z2b, .slice z3A z3k z3c, .slice z4A z4k z4c, .slice z5A z5k z5c, .slice z6A z6k z6c, .slice z7A z7k z7c, .slice z8A z8k z8c, .slice z9A z9k z9c, .slice a0 a1 a2] 55)) (by decide)).mono ?_
     rintro e w2 ⟨rfl, hw2, hf2⟩
     have HF2 := hid hf2
     have hbx := HF2.out.2 wr.heap.size _ 55 (by omega) (by decide) (Bk.new wr 55 #[.int .i64 z0n, .int .i64 z1n, .bool z2b, .slice z3A z3k z3c, .slice z4A z4k z4c, .slice z5A z5k z5c, .slice z6A z6k z6c, .slice z7A z7k z7c, .slice z8A z8k z8c, .slice z9A z9k z9c, .slice a0 a1 a2])
     have b0 := hbx.cell 0
     have b1 := hbx.cell 1
     have b2 := hbx.cell 2
     have b3 := hbx.cell 3
     have b4 := hbx.cell 4
     have b5 := hbx.cell 5
     have b6 := hbx.cell 6
     have b7 := hbx.cell 7
     have b8 := hbx.cell 8
     have b9 := hbx.cell 9
     have b10 := hbx.cell 10
     simp only [gq] at b0 b1 b2 b3 b4 b5 b6 b7 b8 b9 b10
     clear hbx
     have key := HE.out w2 (put (listed o tx k) [32]) [.int .i64 z0n, .int .i64 z1n, .bool z2b, .slice z3A z3k z3c, .slice z4A z4k z4c, .slice z5A z5k z5c, .slice z6A z6k z6c, .slice z7A z7k z7c, .slice z8A z8k z8c, .slice z9A z9k z9c, .slice a0 a1 a2] (tx k) (hI.out.2.trans (((Wfr.refl bw wr).allocs hbwr (.cells #[.int .i64 z0n, .int .i64 z1n, .bool z2b, .slice z3A z3k z3c, .slice z4A z4k z4c, .slice z5A z5k z5c, .slice z6A z6k z6c, .slice z7A z7k z7c, .slice z8A z8k z8c, .slice z9A z9k z9c, .slice a0 a1 a2] 55)).trans hf2)) hw2 ((HRK.out.allocW _).wfr hf2)
     rw [val_node] at key
     have KEY := hid key
     clear key hw2 hf2
     go_wp2_with fail
     refine (show Calls Tryz.prog g (fi ++ #[.agg #[.int .i64 z0n, .int .i64 z1n, .bool z2b, .slice z3A z3k z3c, .slice z4A z4k z4c, .slice z5A z5k z5c, .slice z6A z6k z6c, .slice z7A z7k z7c, .slice z8A z8k z8c, .slice z9A z9k z9c, .slice a0 a1 a2]] ++ ca) _ _ from KEY.out).mono ?_
     rintro e w3 ⟨rfl, hw3, hf3⟩
     have HI2 := hid (hI.out.next (by omega) ((((Wfr.refl bw wr).allocs hbwr (.cells #[.int .i64 z0n, .int .i64 z1n, .bool z2b, .slice z3A z3k z3c, .slice z4A z4k z4c, .slice z5A z5k z5c, .slice z6A z6k z6c, .slice z7A z7k z7c, .slice z8A z8k z8c, .slice z9A z9k z9c, .slice a0 a1 a2] 55)).trans HF2.out).trans hf3) hw3)
     clear hw3 hf3
     go_wp2
     go_roundw
     case rel => exact ⟨k + 1, by omega, by go_num, HI2⟩
     case measure => simp [intOf]; omega
  ·obtain rfl : k = m := by omega
   go_wp2_with fail
   refine (text_any _ bw (listed o tx k) ⟨#[41]⟩ hI.out.1 (by decide)).mono ?_
   rintro e w2 ⟨rfl, hr2, hf2⟩
   go_wp2
   go_end0
   exact hI.out.last hf2 hr2
set_option maxHeartbeats 2000000 in
set_option maxRecDepth 100000 in
theorem ls_claim (g : FuncId) (fi ca : Array Value) (w : World) (bw : Nat) (o : Option (List UInt8)) (A : Option Addr) (m c : Nat) (t : List UInt8) (h : Wst w bw o) (hrep : Rep w (· < bw) (.list claimS) [.slice A m c] [t]) (hel : ElW g fi ca claimS bw w) :
 Calls Tryz.prog 58 #[.pointer (some ⟨bw, 0, none⟩), .slice A m c, .func (.func g) fi ca] w (WRet bw w (put o t)) := by
 obtain ⟨he, hel⟩ := hel
 unfold Enters at he
 obtain ⟨A', m', c', us, tx, hl, hmc, hcm, ht, hcl, hrp⟩ := hrep
 injection hl with hl _
 injection hl with hl1 hl2 hl3
 subst hl1; subst hl2; subst hl3
 injection ht with ht _
 subst ht
 have hbw := h.lt
 have hsz : Shape.sz claimS = 2 := sz_claim
 unfold maxLen at hcm
 have HW := hid h
 have HE := hid hel
 have HCL := hid hcl
 have HRP := hid hrp
 have HSZ := hid hsz
 clear h hel hcl hrp hsz
 go_enter Tryz.func58, Tryz.ntmps58
 go_wp2_with fail
 refine (text_any _ bw o ⟨#[40]⟩ HW.out (by decide)).mono ?_
 rintro e w1 ⟨rfl, hr1, hf1⟩
 have I0 := hid (LInv.start (tx := tx) hr1 hf1)
 clear hr1 hf1
 go_wp2
 go_loopw [12] (fun iv wr => ∃ (k : Nat), k ≤ m ∧ iv = .int .i64 k ∧ Hid (LInv o tx bw w k wr)) (fun iv _ => m - (intOf iv).toNat)
 case atStart => exact ⟨0, by omega, rfl, I0⟩
 case round =>
  obtain ⟨k, hk, rfl, hI⟩ := hrel
  clear I0
  have hbwr : bw < wr.heap.size := by have := hI.out.2.1.size; omega
  by_cases hlt : k < m
  ·obtain ⟨b, off, hA, hD, hblt, hcells⟩ := HCL.out (by omega)
   subst hA
   have hrk := HRP.out k hlt
   obtain ⟨z0n, z1n, hus⟩ := ty_claim hrk.ty
   have hsz := HSZ.out
   have e0 : wr.cell? ⟨b, off + k * 2, none⟩ = some (.int .i64 z0n) := by
    have h9 := (hI.out.2.1.cell (p := ⟨b, off + k * Shape.sz claimS + 0, none⟩) hD).trans (hcells k hlt 0 (.int .i64 z0n) (by rw [hus]; rfl))
    rw [hsz] at h9
    simpa using h9
   have e1 : wr.cell? ⟨b, off + k * 2 + 1, none⟩ = some (.int .i64 z1n) := by
    have h9 := (hI.out.2.1.cell (p := ⟨b, off + k * Shape.sz claimS + 1, none⟩) hD).trans (hcells k hlt 1 (.int .i64 z1n) (by rw [hus]; rfl))
    rw [hsz] at h9
    simpa using h9
   have c2 := hI.out.1.cell
   rw [hus] at hrk
   have HRK := hid (hrk.wfr hI.out.2)
   clear hus hrk hcells hsz
   cases hf : listed o tx k with
   | none =>
    rw [hf] at c2
    have HF := hid hf
    clear hf
    go_wp2
    go_end0
    exact hI.out.full (n := m) (by omega) HF.out ((Wfr.refl bw wr).allocs hbwr (.cells #[.int .i64 z0n, .int .i64 z1n] 99)) (by have := (hI.out.1.alloc (.cells #[.int .i64 z0n, .int .i64 z1n] 99)); rw [HF.out] at this; exact this)
   | some l =>
    rw [hf] at c2
    have HF := hid hf
    clear hf
    by_cases hk0 : k = 0
    ·subst hk0
     simp only [Nat.zero_mul, Nat.add_zero] at e0 e1
     have key := HE.out (wr.alloc (.cells #[.int .i64 z0n, .int .i64 z1n] 99)) (listed o tx 0) [.int .i64 z0n, .int .i64 z1n] (tx 0) (hI.out.2.trans ((Wfr.refl bw wr).allocs hbwr (.cells #[.int .i64 z0n, .int .i64 z1n] 99))) (hI.out.1.alloc (.cells #[.int .i64 z0n, .int .i64 z1n] 99)) (HRK.out.allocW _)
     rw [val_claim] at key
     have KEY := hid key
     clear key
     go_wp2_with fail
     refine (show Calls Tryz.prog g (fi ++ #[.agg #[.int .i64 z0n, .int .i64 z1n]] ++ ca) _ _ from KEY.out).mono ?_
     rintro e w2 ⟨rfl, hw2, hf2⟩
     have HI2 := hid (hI.out.first (((Wfr.refl bw wr).allocs hbwr (.cells #[.int .i64 z0n, .int .i64 z1n] 99)).trans hf2) hw2)
     clear hw2 hf2
     go_wp2
     go_roundw
     case rel => exact ⟨1, by omega, by go_num, HI2⟩
     case measure => simp [intOf]; omega
    ·have hkp : decide (0 < (k : Int)) = true := by simp; omega
     go_wp2_with fail
     refine (text_any _ bw (listed o tx k) ⟨#[32]⟩ (hI.out.1.alloc (.cells #[.int .i64 z0n, .int .i64 z1n] 99)) (by decide)).mono ?_
     rintro e w2 ⟨rfl, hw2, hf2⟩
     have HF2 := hid hf2
     have hbx := HF2.out.2 wr.heap.size _ 99 (by omega) (by decide) (Bk.new wr 99 #[.int .i64 z0n, .int .i64 z1n])
     have b0 := hbx.cell 0
     have b1 := hbx.cell 1
     simp only [gq] at b0 b1
     clear hbx
     have key := HE.out w2 (put (listed o tx k) [32]) [.int .i64 z0n, .int .i64 z1n] (tx k) (hI.out.2.trans (((Wfr.refl bw wr).allocs hbwr (.cells #[.int .i64 z0n, .int .i64 z1n] 99)).trans hf2)) hw2 ((HRK.out.allocW _).wfr hf2)
     rw [val_claim] at key
     have KEY := hid key
     clear key hw2 hf2
     go_wp2_with fail
     refine (show Calls Tryz.prog g (fi ++ #[.agg #[.int .i64 z0n, .int .i64 z1n]] ++ ca) _ _ from KEY.out).mono ?_
     rintro e w3 ⟨rfl, hw3, hf3⟩
     have HI2 := hid (hI.out.next (by omega) ((((Wfr.refl bw wr).allocs hbwr (.cells #[.int .i64 z0n, .int .i64 z1n] 99)).trans HF2.out).trans hf3) hw3)
     clear hw3 hf3
     go_wp2
     go_roundw
     case rel => exact ⟨k + 1, by omega, by go_num, HI2⟩
     case measure => simp [intOf]; omega
  ·obtain rfl : k = m := by omega
   go_wp2_with fail
   refine (text_any _ bw (listed o tx k) ⟨#[41]⟩ hI.out.1 (by decide)).mono ?_
   rintro e w2 ⟨rfl, hr2, hf2⟩
   go_wp2
   go_end0
   exact hI.out.last hf2 hr2
end Go.Proofs.YtpbdkkoanedimaaGreatDoor
