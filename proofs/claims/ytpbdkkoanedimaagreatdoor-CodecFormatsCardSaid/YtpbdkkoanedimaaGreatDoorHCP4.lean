/-
 The writer: lists (printed by gen_codec.py).
-/
import Derived.Test.YtpbdkkoanedimaaGreatDoorHCWa
namespace Go.Proofs.YtpbdkkoanedimaaGreatDoor
open Go.Lib (hid)
open Go.RowKit AC
set_option linter.unusedVariables false
set_option linter.unusedSimpArgs false
set_option maxHeartbeats 2000000 in
set_option maxRecDepth 100000 in
theorem ls_atom (g : FuncId) (fi ca : Array Value) (w : World) (bw : Nat) (o : Option (List UInt8)) (A : Option Addr) (m c : Nat) (t : List UInt8) (h : Wst w bw o) (hrep : Rep w (· < bw) (.list atomS) [.slice A m c] [t]) (hel : ElW g fi ca atomS bw w) :
 Calls Tryz.prog 271 #[.pointer (some ⟨bw, 0, none⟩), .slice A m c, .func (.func g) fi ca] w (WRet bw w (put o t)) := by
 obtain ⟨he, hel⟩ := hel
 unfold Enters at he
 obtain ⟨A', m', c', us, tx, hl, hmc, hcm, ht, hcl, hrp⟩ := hrep
 injection hl with hl _
 injection hl with hl1 hl2 hl3
 subst hl1; subst hl2; subst hl3
 injection ht with ht _
 subst ht
 have hbw := h.lt
 have hsz : Shape.sz atomS = 3 := sz_atom
 unfold maxLen at hcm
 have HW := hid h
 have HE := hid hel
 have HCL := hid hcl
 have HRP := hid hrp
 have HSZ := hid hsz
 clear h hel hcl hrp hsz
 go_enter Tryz.func271, Tryz.ntmps271
 go_wp2_with fail
 refine (text_any _ bw o ⟨#[40]⟩ HW.out (by decide)).mono ?_
 rintro e w1 ⟨rfl, hr1, hf1⟩
 have I0 := hid (LInv.start (tx := tx) hr1 hf1)
 clear hr1 hf1
 go_wp2
 go_loopw [12] (fun iv wr => ∃ (k : Nat), k ≤ m ∧ iv = .int .i64 k ∧ Hid (LInv o tx bw w k wr)) (fun iv _ => m - (intOf iv).toNat)
 case atStart => exact ⟨0, by omega, rfl, I0⟩
 case round =>
  obtain ⟨k, hk, rfl, hI⟩ := hrel
  clear I0
  have hbwr : bw < wr.heap.size := by have := hI.out.2.1.size; omega
  by_cases hlt : k < m
  ·obtain ⟨b, off, hA, hD, hblt, hcells⟩ := HCL.out (by omega)
   subst hA
   have hrk := HRP.out k hlt
   obtain ⟨z0_0n, z0_1A, z0_1k, z0_1c, z1n, hus⟩ := ty_atom hrk.ty
   have hsz := HSZ.out
   have e0 : wr.cell? ⟨b, off + k * 3, none⟩ = some (.int .i64 z0_0n) := by
    have h9 := (hI.out.2.1.cell (p := ⟨b, off + k * Shape.sz atomS + 0, none⟩) hD).trans (hcells k hlt 0 (.int .i64 z0_0n) (by rw [hus]; rfl))
    rw [hsz] at h9
    simpa using h9
   have e1 : wr.cell? ⟨b, off + k * 3 + 1, none⟩ = some (.slice z0_1A z0_1k z0_1c) := by
    have h9 := (hI.out.2.1.cell (p := ⟨b, off + k * Shape.sz atomS + 1, none⟩) hD).trans (hcells k hlt 1 (.slice z0_1A z0_1k z0_1c) (by rw [hus]; rfl))
    rw [hsz] at h9
    simpa using h9
   have e2 : wr.cell? ⟨b, off + k * 3 + 2, none⟩ = some (.int .i64 z1n) := by
    have h9 := (hI.out.2.1.cell (p := ⟨b, off + k * Shape.sz atomS + 2, none⟩) hD).trans (hcells k hlt 2 (.int .i64 z1n) (by rw [hus]; rfl))
    rw [hsz] at h9
    simpa using h9
   have c2 := hI.out.1.cell
   rw [hus] at hrk
   have HRK := hid (hrk.wfr hI.out.2)
   clear hus hrk hcells hsz
   cases hf : listed o tx k with
   | none =>
    rw [hf] at c2
    have HF := hid hf
    clear hf
    go_wp2
    go_end0
    exact hI.out.full (n := m) (by omega) HF.out ((Wfr.refl bw wr).allocs hbwr (.cells #[.int .i64 z0_0n, .slice z0_1A z0_1k z0_1c, .int .i64 z1n] 132)) (by have := (hI.out.1.alloc (.cells #[.int .i64 z0_0n, .slice z0_1A z0_1k z0_1c, .int .i64 z1n] 132)); rw [HF.out] at this; exact this)
   | some l =>
    rw [hf] at c2
    have HF := hid hf
    clear hf
    by_cases hk0 : k = 0
    ·subst hk0
     simp only [Nat.zero_mul, Nat.add_zero] at e0 e1 e2
     have key := HE.out (wr.alloc (.cells #[.int .i64 z0_0n, .slice z0_1A z0_1k z0_1c, .int .i64 z1n] 132)) (listed o tx 0) [.int .i64 z0_0n, .slice z0_1A z0_1k z0_1c, .int .i64 z1n] (tx 0) (hI.out.2.trans ((Wfr.refl bw wr).allocs hbwr (.cells #[.int .i64 z0_0n, .slice z0_1A z0_1k z0_1c, .int .i64 z1n] 132))) (hI.out.1.alloc (.cells #[.int .i64 z0_0n, .slice z0_1A z0_1k z0_1c, .int .i64 z1n] 132)) (HRK.out.allocW _)
     rw [val_atom] at key
     have KEY := hid key
     clear key
     go_wp2_with fail
     refine (show Calls Tryz.prog g (fi ++ #[.agg #[.int .i64 z0_0n, .slice z0_1A z0_1k z0_1c, .int .i64 z1n]] ++ ca) _ _ from KEY.out).mono ?_
     rintro e w2 ⟨rfl, hw2, hf2⟩
     have HI2 := hid (hI.out.first (((Wfr.refl bw wr).allocs hbwr (.cells #[.int .i64 z0_0n, .slice z0_1A z0_1k z0_1c, .int .i64 z1n] 132)).trans hf2) hw2)
     clear hw2 hf2
     go_wp2
     go_roundw
     case rel => exact ⟨1, by omega, by go_num, HI2⟩
     case measure => simp [intOf]; omega
    ·have hkp : decide (0 < (k : Int)) = true := by simp; omega
     go_wp2_with fail
     refine (text_any _ bw (listed o tx k) ⟨#[32]⟩ (hI.out.1.alloc (.cells #[.int .i64 z0_0n, .slice z0_1A z0_1k z0_1c, .int .i64 z1n] 132)) (by decide)).mono ?_
     rintro e w2 ⟨rfl, hw2, hf2⟩
     have HF2 := hid hf2
     have hbx := HF2.out.2 wr.heap.size _ 132 (by omega) (by decide) (Bk.new wr 132 #[.int .i64 z0_0n, .slice z0_1A z0_1k z0_1c, .int .i64 z1n])
     have b0 := hbx.cell 0
     have b1 := hbx.cell 1
     have b2 := hbx.cell 2
     simp only [gq] at b0 b1 b2
     clear hbx
     have key := HE.out w2 (put (listed o tx k) [32]) [.int .i64 z0_0n, .slice z0_1A z0_1k z0_1c, .int .i64 z1n] (tx k) (hI.out.2.trans (((Wfr.refl bw wr).allocs hbwr (.cells #[.int .i64 z0_0n, .slice z0_1A z0_1k z0_1c, .int .i64 z1n] 132)).trans hf2)) hw2 ((HRK.out.allocW _).wfr hf2)
     rw [val_atom] at key
     have KEY := hid key
     clear key hw2 hf2
     go_wp2_with fail
     refine (show Calls Tryz.prog g (fi ++ #[.agg #[.int .i64 z0_0n, .slice z0_1A z0_1k z0_1c, .int .i64 z1n]] ++ ca) _ _ from KEY.out).mono ?_
     rintro e w3 ⟨rfl, hw3, hf3⟩
     have HI2 := hid (hI.out.next (by omega) ((((Wfr.refl bw wr).allocs hbwr (.cells #[.int .i64 z0_0n, .slice z0_1A z0_1k z0_1c, .int .i64 z1n] 132)).trans HF2.out).trans hf3) hw3)
     clear hw3 hf3
     go_wp2
     go_roundw
     case rel => exact ⟨k + 1, by omega, by go_num, HI2⟩
     case measure => simp [intOf]; omega
  ·obtain rfl : k = m := by omega
   go_wp2_with fail
   refine (text_any _ bw (listed o tx k) ⟨#[41]⟩ hI.out.1 (by decide)).mono ?_
   rintro e w2 ⟨rfl, hr2, hf2⟩
   go_wp2
   go_end0
   exact hI.out.last hf2 hr2
set_option maxHeartbeats 2000000 in
set_option maxRecDepth 100000 in
theorem ls_term (n : Nat) (g : FuncId) (fi ca : Array Value) (w : World) (bw : Nat) (o : Option (List UInt8)) (A : Option Addr) (m c : Nat) (t : List UInt8) (h : Wst w bw o) (hrep : Rep w (· < bw) (.list (termS n)) [.slice A m c] [t]) (hel : ElW g fi ca (termS n) bw w) :
 Calls Tryz.prog 116 #[.pointer (some ⟨bw, 0, none⟩), .slice A m c, .func (.func g) fi ca] w (WRet bw w (put o t)) := by
 obtain ⟨he, hel⟩ := hel
 unfold Enters at he
 obtain ⟨A', m', c', us, tx, hl, hmc, hcm, ht, hcl, hrp⟩ := hrep
 injection hl with hl _
 injection hl with hl1 hl2 hl3
 subst hl1; subst hl2; subst hl3
 injection ht with ht _
 subst ht
 have hbw := h.lt
 have hsz : Shape.sz (termS n) = 5 := sz_term
 unfold maxLen at hcm
 have HW := hid h
 have HE := hid hel
 have HCL := hid hcl
 have HRP := hid hrp
 have HSZ := hid hsz
 clear h hel hcl hrp hsz
 go_enter Tryz.func116, Tryz.ntmps116
 go_wp2_with fail
 refine (text_any _ bw o ⟨#[40]⟩ HW.out (by decide)).mono ?_
 rintro e w1 ⟨rfl, hr1, hf1⟩
 have I0 := hid (LInv.start (tx := tx) hr1 hf1)
 clear hr1 hf1
 go_wp2
 go_loopw [12] (fun iv wr => ∃ (k : Nat), k ≤ m ∧ iv = .int .i64 k ∧ Hid (LInv o tx bw w k wr)) (fun iv _ => m - (intOf iv).toNat)
 case atStart => exact ⟨0, by omega, rfl, I0⟩
 case round =>
  obtain ⟨k, hk, rfl, hI⟩ := hrel
  clear I0
  have hbwr : bw < wr.heap.size := by have := hI.out.2.1.size; omega
  by_cases hlt : k < m
  ·obtain ⟨b, off, hA, hD, hblt, hcells⟩ := HCL.out (by omega)
   subst hA
   have hrk := HRP.out k hlt
   obtain ⟨z0b, z0A, z0k, z0c, z0D, z0l, z0d, z1_0A, z1_0k, z1_0c, z1_1A, z1_1k, z1_1c, hus⟩ := ty_term hrk.ty
   have hsz := HSZ.out
   have e0 : wr.cell? ⟨b, off + k * 5, none⟩ = some (.bool z0b) := by
    have h9 := (hI.out.2.1.cell (p := ⟨b, off + k * Shape.sz (termS n) + 0, none⟩) hD).trans (hcells k hlt 0 (.bool z0b) (by rw [hus]; rfl))
    rw [hsz] at h9
    simpa using h9
   have e1 : wr.cell? ⟨b, off + k * 5 + 1, none⟩ = some (.slice z0A z0k z0c) := by
    have h9 := (hI.out.2.1.cell (p := ⟨b, off + k * Shape.sz (termS n) + 1, none⟩) hD).trans (hcells k hlt 1 (.slice z0A z0k z0c) (by rw [hus]; rfl))
    rw [hsz] at h9
    simpa using h9
   have e2 : wr.cell? ⟨b, off + k * 5 + 2, none⟩ = some (.slice z0D z0l z0d) := by
    have h9 := (hI.out.2.1.cell (p := ⟨b, off + k * Shape.sz (termS n) + 2, none⟩) hD).trans (hcells k hlt 2 (.slice z0D z0l z0d) (by rw [hus]; rfl))
    rw [hsz] at h9
    simpa using h9
   have e3 : wr.cell? ⟨b, off + k * 5 + 3, none⟩ = some (.slice z1_0A z1_0k z1_0c) := by
    have h9 := (hI.out.2.1.cell (p := ⟨b, off + k * Shape.sz (termS n) + 3, none⟩) hD).trans (hcells k hlt 3 (.slice z1_0A z1_0k z1_0c) (by rw [hus]; rfl))
    rw [hsz] at h9
    simpa using h9
   have e4 : wr.cell? ⟨b, off + k * 5 + 4, none⟩ = some (.slice z1_1A z1_1k z1_1c) := by
    have h9 := (hI.out.2.1.cell (p := ⟨b, off + k * Shape.sz (termS n) + 4, none⟩) hD).trans (hcells k hlt 4 (.slice z1_1A z1_1k z1_1c) (by rw [hus]; rfl))
    rw [hsz] at h9
    simpa using h9
   have c2 := hI.out.1.cell
   rw [hus] at hrk
   have HRK := hid (hrk.wfr hI.out.2)
   clear hus hrk hcells hsz
   cases hf : listed o tx k with
   | none =>
    rw [hf] at c2
    have HF := hid hf
    clear hf
    go_wp2
    go_end0
    exact hI.out.full (n := m) (by omega) HF.out ((Wfr.refl bw wr).allocs hbwr (.cells #[.bool z0b, .slice z0A z0k z0c, .slice z0D z0l z0d, .slice z1_0A z1_0k z1_0c, .slice z1_1A z1_1k z1_1c] 121)) (by have := (hI.out.1.alloc (.cells #[.bool z0b, .slice z0A z0k z0c, .slice z0D z0l z0d, .slice z1_0A z1_0k z1_0c, .slice z1_1A z1_1k z1_1c] 121)); rw [HF.out] at this; exact this)
   | some l =>
    rw [hf] at c2
    have HF := hid hf
    clear hf
    by_cases hk0 : k = 0
    ·subst hk0
     simp only [Nat.zero_mul, Nat.add_zero] at e0 e1 e2 e3 e4
     have key := HE.out (wr.alloc (.cells #[.bool z0b, .slice z0A z0k z0c, .slice z0D z0l z0d, .slice z1_0A z1_0k z1_0c, .slice z1_1A z1_1k z1_1c] 121)) (listed o tx 0) [.bool z0b, .slice z0A z0k z0c, .slice z0D z0l z0d, .slice z1_0A z1_0k z1_0c, .slice z1_1A z1_1k z1_1c] (tx 0) (hI.out.2.trans ((Wfr.refl bw wr).allocs hbwr (.cells #[.bool z0b, .slice z0A z0k z0c, .slice z0D z0l z0d, .slice z1_0A z1_0k z1_0c, .slice z1_1A z1_1k z1_1c] 121))) (hI.out.1.alloc (.cells #[.bool z0b, .slice z0A z0k z0c, .slice z0D z0l z0d, .slice z1_0A z1_0k z1_0c, .slice z1_1A z1_1k z1_1c] 121)) (HRK.out.allocW _)
     rw [val_term] at key
     have KEY := hid key
     clear key
     go_wp2_with fail
     refine (show Calls Tryz.prog g (fi ++ #[.agg #[.bool z0b, .slice z0A z0k z0c, .slice z0D z0l z0d, .slice z1_0A z1_0k z1_0c, .slice z1_1A z1_1k z1_1c]] ++ ca) _ _ from KEY.out).mono ?_
     rintro e w2 ⟨rfl, hw2, hf2⟩
     have HI2 := hid (hI.out.first (((Wfr.refl bw wr).allocs hbwr (.cells #[.bool z0b, .slice z0A z0k z0c, .slice z0D z0l z0d, .slice z1_0A z1_0k z1_0c, .slice z1_1A z1_1k z1_1c] 121)).trans hf2) hw2)
     clear hw2 hf2
     go_wp2
     go_roundw
     case rel => exact ⟨1, by omega, by go_num, HI2⟩
     case measure => simp [intOf]; omega
    ·have hkp : decide (0 < (k : Int)) = true := by simp; omega
     go_wp2_with fail
     refine (text_any _ bw (listed o tx k) ⟨#[32]⟩ (hI.out.1.alloc (.cells #[.bool z0b, .slice z0A z0k z0c, .slice z0D z0l z0d, .slice z1_0A z1_0k z1_0c, .slice z1_1A z1_1k z1_1c] 121)) (by decide)).mono ?_
     rintro e w2 ⟨rfl, hw2, hf2⟩
     have HF2 := hid hf2
     have hbx := HF2.out.2 wr.heap.size _ 121 (by omega) (by decide) (Bk.new wr 121 #[.bool z0b, .slice z0A z0k z0c, .slice z0D z0l z0d, .slice z1_0A z1_0k z1_0c, .slice z1_1A z1_1k z1_1c])
     have b0 := hbx.cell 0
     have b1 := hbx.cell 1
     have b2 := hbx.cell 2
     have b3 := hbx.cell 3
     have b4 := hbx.cell 4
     simp only [gq] at b0 b1 b2 b3 b4
     clear hbx
     have key := HE.out w2 (put (listed o tx k) [32]) [.bool z0b, .slice z0A z0k z0c, .slice z0D z0l z0d, .slice z1_0A z1_0k z1_0c, .slice z1_1A z1_1k z1_1c] (tx k) (hI.out.2.trans (((Wfr.refl bw wr).allocs hbwr (.cells #[.bool z0b, .slice z0A z0k z0c, .slice z0D z0l z0d, .slice z1_0A z1_0k z1_0c, .slice z1_1A z1_1k z1_1c] 121)).trans hf2)) hw2 ((HRK.out.allocW _).wfr hf2)
     rw [val_term] at key
     have KEY := hid key
     clear key hw2 hf2
     go_wp2_with fail
     refine (show Calls Tryz.prog g (fi ++ #[.agg #[.bool z0b, .slice z0A z0k z0c, .slice z0D z0l z0d, .slice z1_0A z1_0k z1_0c, .slice z1_1A z1_1k z1_1c]] ++ ca) _ _ from KEY.out).mono ?_
     rintro e w3 ⟨rfl, hw3, hf3⟩
     have HI2 := hid (hI.out.next (by omega) ((((Wfr.refl bw wr).allocs hbwr (.cells #[.bool z0b, .slice z0A z0k z0c, .slice z0D z0l z0d, .slice z1_0A z1_0k z1_0c, .slice z1_1A z1_1k z1_1c] 121)).trans HF2.out).trans hf3) hw3)
     clear hw3 hf3
     go_wp2
     go_roundw
     case rel => exact ⟨k + 1, by omega, by go_num, HI2⟩
     case measure => simp [intOf]; omega
  ·obtain rfl : k = m := by omega
   go_wp2_with fail
   refine (text_any _ bw (listed o tx k) ⟨#[41]⟩ hI.out.1 (by decide)).mono ?_
   rintro e w2 ⟨rfl, hr2, hf2⟩
   go_wp2
   go_end0
   exact hI.out.last hf2 hr2
set_option maxHeartbeats 2000000 in
set_option maxRecDepth 100000 in
theorem ls_use (n : Nat) (g : FuncId) (fi ca : Array Value) (w : World) (bw : Nat) (o : Option (List UInt8)) (A : Option Addr) (m c : Nat) (t : List UInt8) (h : Wst w bw o) (hrep : Rep w (· < bw) (.list (useS n)) [.slice A m c] [t]) (hel : ElW g fi ca (useS n) bw w) :
 Calls Tryz.prog 208 #[.pointer (some ⟨bw, 0, none⟩), .slice A m c, .func (.func g) fi ca] w (WRet bw w (put o t)) := by
 obtain ⟨he, hel⟩ := hel
 unfold Enters at he
 obtain ⟨A', m', c', us, tx, hl, hmc, hcm, ht, hcl, hrp⟩ := hrep
 injection hl with hl _
 injection hl with hl1 hl2 hl3
 subst hl1; subst hl2; subst hl3
 injection ht with ht _
 subst ht
 have hbw := h.lt
 have hsz : Shape.sz (useS n) = 6 := sz_use
 unfold maxLen at hcm
 have HW := hid h
 have HE := hid hel
 have HCL := hid hcl
 have HRP := hid hrp
 have HSZ := hid hsz
 clear h hel hcl hrp hsz
 go_enter Tryz.func208, Tryz.ntmps208
 go_wp2_with fail
 refine (text_any _ bw o ⟨#[40]⟩ HW.out (by decide)).mono ?_
 rintro e w1 ⟨rfl, hr1, hf1⟩
 have I0 := hid (LInv.start (tx := tx) hr1 hf1)
 clear hr1 hf1
 go_wp2
 go_loopw [12] (fun iv wr => ∃ (k : Nat), k ≤ m ∧ iv = .int .i64 k ∧ Hid (LInv o tx bw w k wr)) (fun iv _ => m - (intOf iv).toNat)
 case atStart => exact ⟨0, by omega, rfl, I0⟩
 case round =>
  obtain ⟨k, hk, rfl, hI⟩ := hrel
  clear I0
  have hbwr : bw < wr.heap.size := by have := hI.out.2.1.size; omega
  by_cases hlt : k < m
  ·obtain ⟨b, off, hA, hD, hblt, hcells⟩ := HCL.out (by omega)
   subst hA
   have hrk := HRP.out k hlt
   obtain ⟨z0n, z1b, z1A, z1k, z1c, z1D, z1l, z1d, z2_0A, z2_0k, z2_0c, z2_1A, z2_1k, z2_1c, hus⟩ := ty_use hrk.ty
   have hsz := HSZ.out
   have e0 : wr.cell? ⟨b, off + k * 6, none⟩ = some (.int .i64 z0n) := by
    have h9 := (hI.out.2.1.cell (p := ⟨b, off + k * Shape.sz (useS n) + 0, none⟩) hD).trans (hcells k hlt 0 (.int .i64 z0n) (by rw [hus]; rfl))
    rw [hsz] at h9
    simpa using h9
   have e1 : wr.cell? ⟨b, off + k * 6 + 1, none⟩ = some (.bool z1b) := by
    have h9 := (hI.out.2.1.cell (p := ⟨b, off + k * Shape.sz (useS n) + 1, none⟩) hD).trans (hcells k hlt 1 (.bool z1b) (by rw [hus]; rfl))
    rw [hsz] at h9
    simpa using h9
   have e2 : wr.cell? ⟨b, off + k * 6 + 2, none⟩ = some (.slice z1A z1k z1c) := by
    have h9 := (hI.out.2.1.cell (p := ⟨b, off + k * Shape.sz (useS n) + 2, none⟩) hD).trans (hcells k hlt 2 (.slice z1A z1k z1c) (by rw [hus]; rfl))
    rw [hsz] at h9
    simpa using h9
   have e3 : wr.cell? ⟨b, off + k * 6 + 3, none⟩ = some (.slice z1D z1l z1d) := by
    have h9 := (hI.out.2.1.cell (p := ⟨b, off + k * Shape.sz (useS n) + 3, none⟩) hD).trans (hcells k hlt 3 (.slice z1D z1l z1d) (by rw [hus]; rfl))
    rw [hsz] at h9
    simpa using h9
   have e4 : wr.cell? ⟨b, off + k * 6 + 4, none⟩ = some (.slice z2_0A z2_0k z2_0c) := by
    have h9 := (hI.out.2.1.cell (p := ⟨b, off + k * Shape.sz (useS n) + 4, none⟩) hD).trans (hcells k hlt 4 (.slice z2_0A z2_0k z2_0c) (by rw [hus]; rfl))
    rw [hsz] at h9
    simpa using h9
   have e5 : wr.cell? ⟨b, off + k * 6 + 5, none⟩ = some (.slice z2_1A z2_1k z2_1c) := by
    have h9 := (hI.out.2.1.cell (p := ⟨b, off + k * Shape.sz (useS n) + 5, none⟩) hD).trans (hcells k hlt 5 (.slice z2_1A z2_1k z2_1c) (by rw [hus]; rfl))
    rw [hsz] at h9
    simpa using h9
   have c2 := hI.out.1.cell
   rw [hus] at hrk
   have HRK := hid (hrk.wfr hI.out.2)
   clear hus hrk hcells hsz
   cases hf : listed o tx k with
   | none =>
    rw [hf] at c2
    have HF := hid hf
    clear hf
    go_wp2
    go_end0
    exact hI.out.full (n := m) (by omega) HF.out ((Wfr.refl bw wr).allocs hbwr (.cells #[.int .i64 z0n, .bool z1b, .slice z1A z1k z1c, .slice z1D z1l z1d, .slice z2_0A z2_0k z2_0c, .slice z2_1A z2_1k z2_1c] 73)) (by have := (hI.out.1.alloc (.cells #[.int .i64 z0n, .bool z1b, .slice z1A z1k z1c, .slice z1D z1l z1d, .slice z2_0A z2_0k z2_0c, .slice z2_1A z2_1k z2_1c] 73)); rw [HF.out] at this; exact this)
   | some l =>
    rw [hf] at c2
    have HF := hid hf
    clear hf
    by_cases hk0 : k = 0
    ·subst hk0
     simp only [Nat.zero_mul, Nat.add_zero] at e0 e1 e2 e3 e4 e5
     have key := HE.out (wr.alloc (.cells #[.int .i64 z0n, .bool z1b, .slice z1A z1k z1c, .slice z1D z1l z1d, .slice z2_0A z2_0k z2_0c, .slice z2_1A z2_1k z2_1c] 73)) (listed o tx 0) [.int .i64 z0n, .bool z1b, .slice z1A z1k z1c, .slice z1D z1l z1d, .slice z2_0A z2_0k z2_0c, .slice z2_1A z2_1k z2_1c] (tx 0) (hI.out.2.trans ((Wfr.refl bw wr).allocs hbwr (.cells #[.int .i64 z0n, .bool z1b, .slice z1A z1k z1c, .slice z1D z1l z1d, .slice z2_0A z2_0k z2_0c, .slice z2_1A z2_1k z2_1c] 73))) (hI.out.1.alloc (.cells #[.int .i64 z0n, .bool z1b, .slice z1A z1k z1c, .slice z1D z1l z1d, .slice z2_0A z2_0k z2_0c, .slice z2_1A z2_1k z2_1c] 73)) (HRK.out.allocW _)
     rw [val_use] at key
     have KEY := hid key
     clear key
     go_wp2_with fail
     refine (show Calls Tryz.prog g (fi ++ #[.agg #[.int .i64 z0n, .bool z1b, .slice z1A z1k z1c, .slice z1D z1l z1d, .slice z2_0A z2_0k z2_0c, .slice z2_1A z2_1k z2_1c]] ++ ca) _ _ from KEY.out).mono ?_
     rintro e w2 ⟨rfl, hw2, hf2⟩
     have HI2 := hid (hI.out.first (((Wfr.refl bw wr).allocs hbwr (.cells #[.int .i64 z0n, .bool z1b, .slice z1A z1k z1c, .slice z1D z1l z1d, .slice z2_0A z2_0k z2_0c, .slice z2_1A z2_1k z2_1c] 73)).trans hf2) hw2)
     clear hw2 hf2
     go_wp2
     go_roundw
     case rel => exact ⟨1, by omega, by go_num, HI2⟩
     case measure => simp [intOf]; omega
    ·have hkp : decide (0 < (k : Int)) = true := by simp; omega
     go_wp2_with fail
     refine (text_any _ bw (listed o tx k) ⟨#[32]⟩ (hI.out.1.alloc (.cells #[.int .i64 z0n, .bool z1b, .slice z1A z1k z1c, .slice z1D z1l z1d, .slice z2_0A z2_0k z2_0c, .slice z2_1A z2_1k z2_1c] 73)) (by decide)).mono ?_
     rintro e w2 ⟨rfl, hw2, hf2⟩
     have HF2 := hid hf2
     have hbx := HF2.out.2 wr.heap.size _ 73 (by omega) (by decide) (Bk.new wr 73 #[.int .i64 z0n, .bool z1b, .slice z1A z1k z1c, .slice z1D z1l z1d, .slice z2_0A z2_0k z2_0c, .slice z2_1A z2_1k z2_1c])
     have b0 := hbx.cell 0
     have b1 := hbx.cell 1
     have b2 := hbx.cell 2
     have b3 := hbx.cell 3
     have b4 := hbx.cell 4
     have b5 := hbx.cell 5
     simp only [gq] at b0 b1 b2 b3 b4 b5
     clear hbx
     have key := HE.out w2 (put (listed o tx k) [32]) [.int .i64 z0n, .bool z1b, .slice z1A z1k z1c, .slice z1D z1l z1d, .slice z2_0A z2_0k z2_0c, .slice z2_1A z2_1k z2_1c] (tx k) (hI.out.2.trans (((Wfr.refl bw wr).allocs hbwr (.cells #[.int .i64 z0n, .bool z1b, .slice z1A z1k z1c, .slice z1D z1l z1d, .slice z2_0A z2_0k z2_0c, .slice z2_1A z2_1k z2_1c] 73)).trans hf2)) hw2 ((HRK.out.allocW _).wfr hf2)
     rw [val_use] at key
     have KEY := hid key
     clear key hw2 hf2
     go_wp2_with fail
     refine (show Calls Tryz.prog g (fi ++ #[.agg #[.int .i64 z0n, .bool z1b, .slice z1A z1k z1c, .slice z1D z1l z1d, .slice z2_0A z2_0k z2_0c, .slice z2_1A z2_1k z2_1c]] ++ ca) _ _ from KEY.out).mono ?_
     rintro e w3 ⟨rfl, hw3, hf3⟩
     have HI2 := hid (hI.out.next (by omega) ((((Wfr.refl bw wr).allocs hbwr (.cells #[.int .i64 z0n, .bool z1b, .slice z1A z1k z1c, .slice z1D z1l z1d, .slice z2_0A z2_0k z2_0c, .slice z2_1A z2_1k z2_1c] 73)).trans HF2.out).trans hf3) hw3)
     clear hw3 hf3
     go_wp2
     go_roundw
     case rel => exact ⟨k + 1, by omega, by go_num, HI2⟩
     case measure => simp [intOf]; omega
  ·obtain rfl : k = m := by omega
   go_wp2_with fail
   refine (text_any _ bw (listed o tx k) ⟨#[41]⟩ hI.out.1 (by decide)).mono ?_
   rintro e w2 ⟨rfl, hr2, hf2⟩
   go_wp2
   go_end0
   exact hI.out.last hf2 hr2
set_option maxHeartbeats 2000000 in
set_option maxRecDepth 100000 in
theorem ls_part (n : Nat) (g : FuncId) (fi ca : Array Value) (w : World) (bw : Nat) (o : Option (List UInt8)) (A : Option Addr) (m c : Nat) (t : List UInt8) (h : Wst w bw o) (hrep : Rep w (· < bw) (.list (useS n)) [.slice A m c] [t]) (hel : ElW g fi ca (useS n) bw w) :
 Calls Tryz.prog 123 #[.pointer (some ⟨bw, 0, none⟩), .slice A m c, .func (.func g) fi ca] w (WRet bw w (put o t)) := by
 obtain ⟨he, hel⟩ := hel
 unfold Enters at he
 obtain ⟨A', m', c', us, tx, hl, hmc, hcm, ht, hcl, hrp⟩ := hrep
 injection hl with hl _
 injection hl with hl1 hl2 hl3
 subst hl1; subst hl2; subst hl3
 injection ht with ht _
 subst ht
 have hbw := h.lt
 have hsz : Shape.sz (useS n) = 6 := sz_use
 unfold maxLen at hcm
 have HW := hid h
 have HE := hid hel
 have HCL := hid hcl
 have HRP := hid hrp
 have HSZ := hid hsz
 clear h hel hcl hrp hsz
 go_enter Tryz.func123, Tryz.ntmps123
 go_wp2_with fail
 refine (text_any _ bw o ⟨#[40]⟩ HW.out (by decide)).mono ?_
 rintro e w1 ⟨rfl, hr1, hf1⟩
 have I0 := hid (LInv.start (tx := tx) hr1 hf1)
 clear hr1 hf1
 go_wp2
 go_loopw [12] (fun iv wr => ∃ (k : Nat), k ≤ m ∧ iv = .int .i64 k ∧ Hid (LInv o tx bw w k wr)) (fun iv _ => m - (intOf iv).toNat)
 case atStart => exact ⟨0, by omega, rfl, I0⟩
 case round =>
  obtain ⟨k, hk, rfl, hI⟩ := hrel
  clear I0
  have hbwr : bw < wr.heap.size := by have := hI.out.2.1.size; omega
  by_cases hlt : k < m
  ·obtain ⟨b, off, hA, hD, hblt, hcells⟩ := HCL.out (by omega)
   subst hA
   have hrk := HRP.out k hlt
   obtain ⟨z0n, z1b, z1A, z1k, z1c, z1D, z1l, z1d, z2_0A, z2_0k, z2_0c, z2_1A, z2_1k, z2_1c, hus⟩ := ty_use hrk.ty
   have hsz := HSZ.out
   have e0 : wr.cell? ⟨b, off + k * 6, none⟩ = some (.int .i64 z0n) := by
    have h9 := (hI.out.2.1.cell (p := ⟨b, off + k * Shape.sz (useS n) + 0, none⟩) hD).trans (hcells k hlt 0 (.int .i64 z0n) (by rw [hus]; rfl))
    rw [hsz] at h9
    simpa using h9
   have e1 : wr.cell? ⟨b, off + k * 6 + 1, none⟩ = some (.bool z1b) := by
    have h9 := (hI.out.2.1.cell (p := ⟨b, off + k * Shape.sz (useS n) + 1, none⟩) hD).trans (hcells k hlt 1 (.bool z1b) (by rw [hus]; rfl))
    rw [hsz] at h9
    simpa using h9
   have e2 : wr.cell? ⟨b, off + k * 6 + 2, none⟩ = some (.slice z1A z1k z1c) := by
    have h9 := (hI.out.2.1.cell (p := ⟨b, off + k * Shape.sz (useS n) + 2, none⟩) hD).trans (hcells k hlt 2 (.slice z1A z1k z1c) (by rw [hus]; rfl))
    rw [hsz] at h9
    simpa using h9
   have e3 : wr.cell? ⟨b, off + k * 6 + 3, none⟩ = some (.slice z1D z1l z1d) := by
    have h9 := (hI.out.2.1.cell (p := ⟨b, off + k * Shape.sz (useS n) + 3, none⟩) hD).trans (hcells k hlt 3 (.slice z1D z1l z1d) (by rw [hus]; rfl))
    rw [hsz] at h9
    simpa using h9
   have e4 : wr.cell? ⟨b, off + k * 6 + 4, none⟩ = some (.slice z2_0A z2_0k z2_0c) := by
    have h9 := (hI.out.2.1.cell (p := ⟨b, off + k * Shape.sz (useS n) + 4, none⟩) hD).trans (hcells k hlt 4 (.slice z2_0A z2_0k z2_0c) (by rw [hus]; rfl))
    rw [hsz] at h9
    simpa using h9
   have e5 : wr.cell? ⟨b, off + k * 6 + 5, none⟩ = some (.slice z2_1A z2_1k z2_1c) := by
    have h9 := (hI.out.2.1.cell (p := ⟨b, off + k * Shape.sz (useS n) + 5, none⟩) hD).trans (hcells k hlt 5 (.slice z2_1A z2_1k z2_1c) (by rw [hus]; rfl))
    rw [hsz] at h9
    simpa using h9
   have c2 := hI.out.1.cell
   rw [hus] at hrk
   have HRK := hid (hrk.wfr hI.out.2)
   clear hus hrk hcells hsz
   cases hf : listed o tx k with
   | none =>
    rw [hf] at c2
    have HF := hid hf
    clear hf
    go_wp2
    go_end0
    exact hI.out.full (n := m) (by omega) HF.out ((Wfr.refl bw wr).allocs hbwr (.cells #[.int .i64 z0n, .bool z1b, .slice z1A z1k z1c, .slice z1D z1l z1d, .slice z2_0A z2_0k z2_0c, .slice z2_1A z2_1k z2_1c] 66)) (by have := (hI.out.1.alloc (.cells #[.int .i64 z0n, .bool z1b, .slice z1A z1k z1c, .slice z1D z1l z1d, .slice z2_0A z2_0k z2_0c, .slice z2_1A z2_1k z2_1c] 66)); rw [HF.out] at this; exact this)
   | some l =>
    rw [hf] at c2
    have HF := hid hf
    clear hf
    by_cases hk0 : k = 0
    ·subst hk0
     simp only [Nat.zero_mul, Nat.add_zero] at e0 e1 e2 e3 e4 e5
     have key := HE.out (wr.alloc (.cells #[.int .i64 z0n, .bool z1b, .slice z1A z1k z1c, .slice z1D z1l z1d, .slice z2_0A z2_0k z2_0c, .slice z2_1A z2_1k z2_1c] 66)) (listed o tx 0) [.int .i64 z0n, .bool z1b, .slice z1A z1k z1c, .slice z1D z1l z1d, .slice z2_0A z2_0k z2_0c, .slice z2_1A z2_1k z2_1c] (tx 0) (hI.out.2.trans ((Wfr.refl bw wr).allocs hbwr (.cells #[.int .i64 z0n, .bool z1b, .slice z1A z1k z1c, .slice z1D z1l z1d, .slice z2_0A z2_0k z2_0c, .slice z2_1A z2_1k z2_1c] 66))) (hI.out.1.alloc (.cells #[.int .i64 z0n, .bool z1b, .slice z1A z1k z1c, .slice z1D z1l z1d, .slice z2_0A z2_0k z2_0c, .slice z2_1A z2_1k z2_1c] 66)) (HRK.out.allocW _)
     rw [val_use] at key
     have KEY := hid key
     clear key
     go_wp2_with fail
     refine (show Calls Tryz.prog g (fi ++ #[.agg #[.int .i64 z0n, .bool z1b, .slice z1A z1k z1c, .slice z1D z1l z1d, .slice z2_0A z2_0k z2_0c, .slice z2_1A z2_1k z2_1c]] ++ ca) _ _ from KEY.out).mono ?_
     rintro e w2 ⟨rfl, hw2, hf2⟩
     have HI2 := hid (hI.out.first (((Wfr.refl bw wr).allocs hbwr (.cells #[.int .i64 z0n, .bool z1b, .slice z1A z1k z1c, .slice z1D z1l z1d, .slice z2_0A z2_0k z2_0c, .slice z2_1A z2_1k z2_1c] 66)).trans hf2) hw2)
     clear hw2 hf2
     go_wp2
     go_roundw
     case rel => exact ⟨1, by omega, by go_num, HI2⟩
     case measure => simp [intOf]; omega
    ·have hkp : decide (0 < (k : Int)) = true := by simp; omega
     go_wp2_with fail
     refine (text_any _ bw (listed o tx k) ⟨#[32]⟩ (hI.out.1.alloc (.cells #[.int .i64 z0n, .bool z1b, .slice z1A z1k z1c, .slice z1D z1l z1d, .slice z2_0A z2_0k z2_0c, .slice z2_1A z2_1k z2_1c] 66)) (by decide)).mono ?_
     rintro e w2 ⟨rfl, hw2, hf2⟩
     have HF2 := hid hf2
     have hbx := HF2.out.2 wr.heap.size _ 66 (by omega) (by decide) (Bk.new wr 66 #[.int .i64 z0n, .bool z1b, .slice z1A z1k z1c, .slice z1D z1l z1d, .slice z2_0A z2_0k z2_0c, .slice z2_1A z2_1k z2_1c])
     have b0 := hbx.cell 0
     have b1 := hbx.cell 1
     have b2 := hbx.cell 2
     have b3 := hbx.cell 3
     have b4 := hbx.cell 4
     have b5 := hbx.cell 5
     simp only [gq] at b0 b1 b2 b3 b4 b5
     clear hbx
     have key := HE.out w2 (put (listed o tx k) [32]) [.int .i64 z0n, .bool z1b, .slice z1A z1k z1c, .slice z1D z1l z1d, .slice z2_0A z2_0k z2_0c, .slice z2_1A z2_1k z2_1c] (tx k) (hI.out.2.trans (((Wfr.refl bw wr).allocs hbwr (.cells #[.int .i64 z0n, .bool z1b, .slice z1A z1k z1c, .slice z1D z1l z1d, .slice z2_0A z2_0k z2_0c, .slice z2_1A z2_1k z2_1c] 66)).trans hf2)) hw2 ((HRK.out.allocW _).wfr hf2)
     rw [val_use] at key
     have KEY := hid key
     clear key hw2 hf2
     go_wp2_with fail
     refine (show Calls Tryz.prog g (fi ++ #[.agg #[.int .i64 z0n, .bool z1b, .slice z1A z1k z1c, .slice z1D z1l z1d, .slice z2_0A z2_0k z2_0c, .slice z2_1A z2_1k z2_1c]] ++ ca) _ _ from KEY.out).mono ?_
     rintro e w3 ⟨rfl, hw3, hf3⟩
     have HI2 := hid (hI.out.next (by omega) ((((Wfr.refl bw wr).allocs hbwr (.cells #[.int .i64 z0n, .bool z1b, .slice z1A z1k z1c, .slice z1D z1l z1d, .slice z2_0A z2_0k z2_0c, .slice z2_1A z2_1k z2_1c] 66)).trans HF2.out).trans hf3) hw3)
     clear hw3 hf3
     go_wp2
     go_roundw
     case rel => exact ⟨k + 1, by omega, by go_num, HI2⟩
     case measure => simp [intOf]; omega
  ·obtain rfl : k = m := by omega
   go_wp2_with fail
   refine (text_any _ bw (listed o tx k) ⟨#[41]⟩ hI.out.1 (by decide)).mono ?_
   rintro e w2 ⟨rfl, hr2, hf2⟩
   go_wp2
   go_end0
   exact hI.out.last hf2 hr2
end Go.Proofs.YtpbdkkoanedimaaGreatDoor
