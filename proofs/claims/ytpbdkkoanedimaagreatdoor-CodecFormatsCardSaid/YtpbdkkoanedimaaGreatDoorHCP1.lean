/-
 The writer: lists (printed by gen_codec.py).
-/
import Derived.Test.YtpbdkkoanedimaaGreatDoorHCWa
namespace Go.Proofs.YtpbdkkoanedimaaGreatDoor
open Go.Lib (hid)
open Go.RowKit AC
set_option linter.unusedVariables false
set_option linter.unusedSimpArgs false
set_option maxHeartbeats 2000000 in
set_option maxRecDepth 100000 in
theorem ls_int64 (g : FuncId) (fi ca : Array Value) (w : World) (bw : Nat) (o : Option (List UInt8)) (A : Option Addr) (m c : Nat) (t : List UInt8) (h : Wst w bw o) (hrep : Rep w (· < bw) (.list .int) [.slice A m c] [t]) (hel : ElW g fi ca .int bw w) :
 Calls Tryz.prog 191 #[.pointer (some ⟨bw, 0, none⟩), .slice A m c, .func (.func g) fi ca] w (WRet bw w (put o t)) := by
 obtain ⟨he, hel⟩ := hel
 unfold Enters at he
 obtain ⟨A', m', c', us, tx, hl, hmc, hcm, ht, hcl, hrp⟩ := hrep
 injection hl with hl _
 injection hl with hl1 hl2 hl3
 subst hl1; subst hl2; subst hl3
 injection ht with ht _
 subst ht
 have hbw := h.lt
 have hsz : Shape.sz .int = 1 := rfl
 unfold maxLen at hcm
 have HW := hid h
 have HE := hid hel
 have HCL := hid hcl
 have HRP := hid hrp
 have HSZ := hid hsz
 clear h hel hcl hrp hsz
 go_enter Tryz.func191, Tryz.ntmps191
 go_wp2_with fail
 refine (text_any _ bw o ⟨#[40]⟩ HW.out (by decide)).mono ?_
 rintro e w1 ⟨rfl, hr1, hf1⟩
 have I0 := hid (LInv.start (tx := tx) hr1 hf1)
 clear hr1 hf1
 go_wp2
 go_loopw [12] (fun iv wr => ∃ (k : Nat), k ≤ m ∧ iv = .int .i64 k ∧ Hid (LInv o tx bw w k wr)) (fun iv _ => m - (intOf iv).toNat)
 case atStart => exact ⟨0, by omega, rfl, I0⟩
 case round =>
  obtain ⟨k, hk, rfl, hI⟩ := hrel
  clear I0
  have hbwr : bw < wr.heap.size := by have := hI.out.2.1.size; omega
  by_cases hlt : k < m
  ·obtain ⟨b, off, hA, hD, hblt, hcells⟩ := HCL.out (by omega)
   subst hA
   have hrk := HRP.out k hlt
   obtain ⟨zn, hus⟩ := ty_int hrk.ty
   have hsz := HSZ.out
   have e0 : wr.cell? ⟨b, off + k, none⟩ = some (.int .i64 zn) := by
    have h9 := (hI.out.2.1.cell (p := ⟨b, off + k * Shape.sz .int + 0, none⟩) hD).trans (hcells k hlt 0 (.int .i64 zn) (by rw [hus]; rfl))
    rw [hsz] at h9
    simpa using h9
   have c2 := hI.out.1.cell
   rw [hus] at hrk
   have HRK := hid (hrk.wfr hI.out.2)
   clear hus hrk hcells hsz
   cases hf : listed o tx k with
   | none =>
    rw [hf] at c2
    have HF := hid hf
    clear hf
    go_wp2
    go_end0
    exact hI.out.full (n := m) (by omega) HF.out (Wfr.refl bw wr) (by have := hI.out.1; rw [HF.out] at this; exact this)
   | some l =>
    rw [hf] at c2
    have HF := hid hf
    clear hf
    by_cases hk0 : k = 0
    ·subst hk0
     simp only [Nat.zero_mul, Nat.add_zero] at e0
     have key := HE.out wr (listed o tx 0) [.int .i64 zn] (tx 0) (hI.out.2.trans (Wfr.refl bw wr)) hI.out.1 HRK.out
     rw [val_int] at key
     have KEY := hid key
     clear key
     go_wp2_with fail
     refine (show Calls Tryz.prog g (fi ++ #[.int .i64 zn] ++ ca) _ _ from KEY.out).mono ?_
     rintro e w2 ⟨rfl, hw2, hf2⟩
     have HI2 := hid (hI.out.first ((Wfr.refl bw wr).trans hf2) hw2)
     clear hw2 hf2
     go_wp2
     go_roundw
     case rel => exact ⟨1, by omega, by go_num, HI2⟩
     case measure => simp [intOf]; omega
    ·have hkp : decide (0 < (k : Int)) = true := by simp; omega
     go_wp2_with fail
     refine (text_any _ bw (listed o tx k) ⟨#[32]⟩ hI.out.1 (by decide)).mono ?_
     rintro e w2 ⟨rfl, hw2, hf2⟩
     have HF2 := hid hf2
     have key := HE.out w2 (put (listed o tx k) [32]) [.int .i64 zn] (tx k) (hI.out.2.trans ((Wfr.refl bw wr).trans hf2)) hw2 (HRK.out.wfr hf2)
     rw [val_int] at key
     have KEY := hid key
     clear key hw2 hf2
     go_wp2_with fail
     refine (show Calls Tryz.prog g (fi ++ #[.int .i64 zn] ++ ca) _ _ from KEY.out).mono ?_
     rintro e w3 ⟨rfl, hw3, hf3⟩
     have HI2 := hid (hI.out.next (by omega) (((Wfr.refl bw wr).trans HF2.out).trans hf3) hw3)
     clear hw3 hf3
     go_wp2
     go_roundw
     case rel => exact ⟨k + 1, by omega, by go_num, HI2⟩
     case measure => simp [intOf]; omega
  ·obtain rfl : k = m := by omega
   go_wp2_with fail
   refine (text_any _ bw (listed o tx k) ⟨#[41]⟩ hI.out.1 (by decide)).mono ?_
   rintro e w2 ⟨rfl, hr2, hf2⟩
   go_wp2
   go_end0
   exact hI.out.last hf2 hr2
set_option maxHeartbeats 2000000 in
set_option maxRecDepth 100000 in
theorem ls_int (g : FuncId) (fi ca : Array Value) (w : World) (bw : Nat) (o : Option (List UInt8)) (A : Option Addr) (m c : Nat) (t : List UInt8) (h : Wst w bw o) (hrep : Rep w (· < bw) (.list .int) [.slice A m c] [t]) (hel : ElW g fi ca .int bw w) :
 Calls Tryz.prog 197 #[.pointer (some ⟨bw, 0, none⟩), .slice A m c, .func (.func g) fi ca] w (WRet bw w (put o t)) := by
 obtain ⟨he, hel⟩ := hel
 unfold Enters at he
 obtain ⟨A', m', c', us, tx, hl, hmc, hcm, ht, hcl, hrp⟩ := hrep
 injection hl with hl _
 injection hl with hl1 hl2 hl3
 subst hl1; subst hl2; subst hl3
 injection ht with ht _
 subst ht
 have hbw := h.lt
 have hsz : Shape.sz .int = 1 := rfl
 unfold maxLen at hcm
 have HW := hid h
 have HE := hid hel
 have HCL := hid hcl
 have HRP := hid hrp
 have HSZ := hid hsz
 clear h hel hcl hrp hsz
 go_enter Tryz.func197, Tryz.ntmps197
 go_wp2_with fail
 refine (text_any _ bw o ⟨#[40]⟩ HW.out (by decide)).mono ?_
 rintro e w1 ⟨rfl, hr1, hf1⟩
 have I0 := hid (LInv.start (tx := tx) hr1 hf1)
 clear hr1 hf1
 go_wp2
 go_loopw [12] (fun iv wr => ∃ (k : Nat), k ≤ m ∧ iv = .int .i64 k ∧ Hid (LInv o tx bw w k wr)) (fun iv _ => m - (intOf iv).toNat)
 case atStart => exact ⟨0, by omega, rfl, I0⟩
 case round =>
  obtain ⟨k, hk, rfl, hI⟩ := hrel
  clear I0
  have hbwr : bw < wr.heap.size := by have := hI.out.2.1.size; omega
  by_cases hlt : k < m
  ·obtain ⟨b, off, hA, hD, hblt, hcells⟩ := HCL.out (by omega)
   subst hA
   have hrk := HRP.out k hlt
   obtain ⟨zn, hus⟩ := ty_int hrk.ty
   have hsz := HSZ.out
   have e0 : wr.cell? ⟨b, off + k, none⟩ = some (.int .i64 zn) := by
    have h9 := (hI.out.2.1.cell (p := ⟨b, off + k * Shape.sz .int + 0, none⟩) hD).trans (hcells k hlt 0 (.int .i64 zn) (by rw [hus]; rfl))
    rw [hsz] at h9
    simpa using h9
   have c2 := hI.out.1.cell
   rw [hus] at hrk
   have HRK := hid (hrk.wfr hI.out.2)
   clear hus hrk hcells hsz
   cases hf : listed o tx k with
   | none =>
    rw [hf] at c2
    have HF := hid hf
    clear hf
    go_wp2
    go_end0
    exact hI.out.full (n := m) (by omega) HF.out (Wfr.refl bw wr) (by have := hI.out.1; rw [HF.out] at this; exact this)
   | some l =>
    rw [hf] at c2
    have HF := hid hf
    clear hf
    by_cases hk0 : k = 0
    ·subst hk0
     simp only [Nat.zero_mul, Nat.add_zero] at e0
     have key := HE.out wr (listed o tx 0) [.int .i64 zn] (tx 0) (hI.out.2.trans (Wfr.refl bw wr)) hI.out.1 HRK.out
     rw [val_int] at key
     have KEY := hid key
     clear key
     go_wp2_with fail
     refine (show Calls Tryz.prog g (fi ++ #[.int .i64 zn] ++ ca) _ _ from KEY.out).mono ?_
     rintro e w2 ⟨rfl, hw2, hf2⟩
     have HI2 := hid (hI.out.first ((Wfr.refl bw wr).trans hf2) hw2)
     clear hw2 hf2
     go_wp2
     go_roundw
     case rel => exact ⟨1, by omega, by go_num, HI2⟩
     case measure => simp [intOf]; omega
    ·have hkp : decide (0 < (k : Int)) = true := by simp; omega
     go_wp2_with fail
     refine (text_any _ bw (listed o tx k) ⟨#[32]⟩ hI.out.1 (by decide)).mono ?_
     rintro e w2 ⟨rfl, hw2, hf2⟩
     have HF2 := hid hf2
     have key := HE.out w2 (put (listed o tx k) [32]) [.int .i64 zn] (tx k) (hI.out.2.trans ((Wfr.refl bw wr).trans hf2)) hw2 (HRK.out.wfr hf2)
     rw [val_int] at key
     have KEY := hid key
     clear key hw2 hf2
     go_wp2_with fail
     refine (show Calls Tryz.prog g (fi ++ #[.int .i64 zn] ++ ca) _ _ from KEY.out).mono ?_
     rintro e w3 ⟨rfl, hw3, hf3⟩
     have HI2 := hid (hI.out.next (by omega) (((Wfr.refl bw wr).trans HF2.out).trans hf3) hw3)
     clear hw3 hf3
     go_wp2
     go_roundw
     case rel => exact ⟨k + 1, by omega, by go_num, HI2⟩
     case measure => simp [intOf]; omega
  ·obtain rfl : k = m := by omega
   go_wp2_with fail
   refine (text_any _ bw (listed o tx k) ⟨#[41]⟩ hI.out.1 (by decide)).mono ?_
   rintro e w2 ⟨rfl, hr2, hf2⟩
   go_wp2
   go_end0
   exact hI.out.last hf2 hr2
set_option maxHeartbeats 2000000 in
set_option maxRecDepth 100000 in
theorem ls_rat (g : FuncId) (fi ca : Array Value) (w : World) (bw : Nat) (o : Option (List UInt8)) (A : Option Addr) (m c : Nat) (t : List UInt8) (h : Wst w bw o) (hrep : Rep w (· < bw) (.list .rat) [.slice A m c] [t]) (hel : ElW g fi ca .rat bw w) :
 Calls Tryz.prog 214 #[.pointer (some ⟨bw, 0, none⟩), .slice A m c, .func (.func g) fi ca] w (WRet bw w (put o t)) := by
 obtain ⟨he, hel⟩ := hel
 unfold Enters at he
 obtain ⟨A', m', c', us, tx, hl, hmc, hcm, ht, hcl, hrp⟩ := hrep
 injection hl with hl _
 injection hl with hl1 hl2 hl3
 subst hl1; subst hl2; subst hl3
 injection ht with ht _
 subst ht
 have hbw := h.lt
 have hsz : Shape.sz .rat = 3 := rfl
 unfold maxLen at hcm
 have HW := hid h
 have HE := hid hel
 have HCL := hid hcl
 have HRP := hid hrp
 have HSZ := hid hsz
 clear h hel hcl hrp hsz
 go_enter Tryz.func214, Tryz.ntmps214
 go_wp2_with fail
 refine (text_any _ bw o ⟨#[40]⟩ HW.out (by decide)).mono ?_
 rintro e w1 ⟨rfl, hr1, hf1⟩
 have I0 := hid (LInv.start (tx := tx) hr1 hf1)
 clear hr1 hf1
 go_wp2
 go_loopw [12] (fun iv wr => ∃ (k : Nat), k ≤ m ∧ iv = .int .i64 k ∧ Hid (LInv o tx bw w k wr)) (fun iv _ => m - (intOf iv).toNat)
 case atStart => exact ⟨0, by omega, rfl, I0⟩
 case round =>
  obtain ⟨k, hk, rfl, hI⟩ := hrel
  clear I0
  have hbwr : bw < wr.heap.size := by have := hI.out.2.1.size; omega
  by_cases hlt : k < m
  ·obtain ⟨b, off, hA, hD, hblt, hcells⟩ := HCL.out (by omega)
   subst hA
   have hrk := HRP.out k hlt
   obtain ⟨zb, zA, zk, zc, zD, zl, zd, hus⟩ := ty_rat hrk.ty
   have hsz := HSZ.out
   have e0 : wr.cell? ⟨b, off + k * 3, none⟩ = some (.bool zb) := by
    have h9 := (hI.out.2.1.cell (p := ⟨b, off + k * Shape.sz .rat + 0, none⟩) hD).trans (hcells k hlt 0 (.bool zb) (by rw [hus]; rfl))
    rw [hsz] at h9
    simpa using h9
   have e1 : wr.cell? ⟨b, off + k * 3 + 1, none⟩ = some (.slice zA zk zc) := by
    have h9 := (hI.out.2.1.cell (p := ⟨b, off + k * Shape.sz .rat + 1, none⟩) hD).trans (hcells k hlt 1 (.slice zA zk zc) (by rw [hus]; rfl))
    rw [hsz] at h9
    simpa using h9
   have e2 : wr.cell? ⟨b, off + k * 3 + 2, none⟩ = some (.slice zD zl zd) := by
    have h9 := (hI.out.2.1.cell (p := ⟨b, off + k * Shape.sz .rat + 2, none⟩) hD).trans (hcells k hlt 2 (.slice zD zl zd) (by rw [hus]; rfl))
    rw [hsz] at h9
    simpa using h9
   have c2 := hI.out.1.cell
   rw [hus] at hrk
   have HRK := hid (hrk.wfr hI.out.2)
   clear hus hrk hcells hsz
   cases hf : listed o tx k with
   | none =>
    rw [hf] at c2
    have HF := hid hf
    clear hf
    go_wp2
    go_end0
    exact hI.out.full (n := m) (by omega) HF.out ((Wfr.refl bw wr).allocs hbwr (.cells #[.bool zb, .slice zA zk zc, .slice zD zl zd] 60)) (by have := (hI.out.1.alloc (.cells #[.bool zb, .slice zA zk zc, .slice zD zl zd] 60)); rw [HF.out] at this; exact this)
   | some l =>
    rw [hf] at c2
    have HF := hid hf
    clear hf
    by_cases hk0 : k = 0
    ·subst hk0
     simp only [Nat.zero_mul, Nat.add_zero] at e0 e1 e2
     have key := HE.out (wr.alloc (.cells #[.bool zb, .slice zA zk zc, .slice zD zl zd] 60)) (listed o tx 0) [.bool zb, .slice zA zk zc, .slice zD zl zd] (tx 0) (hI.out.2.trans ((Wfr.refl bw wr).allocs hbwr (.cells #[.bool zb, .slice zA zk zc, .slice zD zl zd] 60))) (hI.out.1.alloc (.cells #[.bool zb, .slice zA zk zc, .slice zD zl zd] 60)) (HRK.out.allocW _)
     rw [val_rat] at key
     have KEY := hid key
     clear key
     go_wp2_with fail
     refine (show Calls Tryz.prog g (fi ++ #[.agg #[.bool zb, .slice zA zk zc, .slice zD zl zd]] ++ ca) _ _ from KEY.out).mono ?_
     rintro e w2 ⟨rfl, hw2, hf2⟩
     have HI2 := hid (hI.out.first (((Wfr.refl bw wr).allocs hbwr (.cells #[.bool zb, .slice zA zk zc, .slice zD zl zd] 60)).trans hf2) hw2)
     clear hw2 hf2
     go_wp2
     go_roundw
     case rel => exact ⟨1, by omega, by go_num, HI2⟩
     case measure => simp [intOf]; omega
    ·have hkp : decide (0 < (k : Int)) = true := by simp; omega
     go_wp2_with fail
     refine (text_any _ bw (listed o tx k) ⟨#[32]⟩ (hI.out.1.alloc (.cells #[.bool zb, .slice zA zk zc, .slice zD zl zd] 60)) (by decide)).mono ?_
     rintro e w2 ⟨rfl, hw2, hf2⟩
     have HF2 := hid hf2
     have hbx := HF2.out.2 wr.heap.size _ 60 (by omega) (by decide) (Bk.new wr 60 #[.bool zb, .slice zA zk zc, .slice zD zl zd])
     have b0 := hbx.cell 0
     have b1 := hbx.cell 1
     have b2 := hbx.cell 2
     simp only [gq] at b0 b1 b2
     clear hbx
     have key := HE.out w2 (put (listed o tx k) [32]) [.bool zb, .slice zA zk zc, .slice zD zl zd] (tx k) (hI.out.2.trans (((Wfr.refl bw wr).allocs hbwr (.cells #[.bool zb, .slice zA zk zc, .slice zD zl zd] 60)).trans hf2)) hw2 ((HRK.out.allocW _).wfr hf2)
     rw [val_rat] at key
     have KEY := hid key
     clear key hw2 hf2
     go_wp2_with fail
     refine (show Calls Tryz.prog g (fi ++ #[.agg #[.bool zb, .slice zA zk zc, .slice zD zl zd]] ++ ca) _ _ from KEY.out).mono ?_
     rintro e w3 ⟨rfl, hw3, hf3⟩
     have HI2 := hid (hI.out.next (by omega) ((((Wfr.refl bw wr).allocs hbwr (.cells #[.bool zb, .slice zA zk zc, .slice zD zl zd] 60)).trans HF2.out).trans hf3) hw3)
     clear hw3 hf3
     go_wp2
     go_roundw
     case rel => exact ⟨k + 1, by omega, by go_num, HI2⟩
     case measure => simp [intOf]; omega
  ·obtain rfl : k = m := by omega
   go_wp2_with fail
   refine (text_any _ bw (listed o tx k) ⟨#[41]⟩ hI.out.1 (by decide)).mono ?_
   rintro e w2 ⟨rfl, hr2, hf2⟩
   go_wp2
   go_end0
   exact hI.out.last hf2 hr2
set_option maxHeartbeats 2000000 in
set_option maxRecDepth 100000 in
theorem ls_l_int (g : FuncId) (fi ca : Array Value) (w : World) (bw : Nat) (o : Option (List UInt8)) (A : Option Addr) (m c : Nat) (t : List UInt8) (h : Wst w bw o) (hrep : Rep w (· < bw) (.list (.list .int)) [.slice A m c] [t]) (hel : ElW g fi ca (.list .int) bw w) :
 Calls Tryz.prog 105 #[.pointer (some ⟨bw, 0, none⟩), .slice A m c, .func (.func g) fi ca] w (WRet bw w (put o t)) := by
 obtain ⟨he, hel⟩ := hel
 unfold Enters at he
 obtain ⟨A', m', c', us, tx, hl, hmc, hcm, ht, hcl, hrp⟩ := hrep
 injection hl with hl _
 injection hl with hl1 hl2 hl3
 subst hl1; subst hl2; subst hl3
 injection ht with ht _
 subst ht
 have hbw := h.lt
 have hsz : Shape.sz (.list .int) = 1 := rfl
 unfold maxLen at hcm
 have HW := hid h
 have HE := hid hel
 have HCL := hid hcl
 have HRP := hid hrp
 have HSZ := hid hsz
 clear h hel hcl hrp hsz
 go_enter Tryz.func105, Tryz.ntmps105
 go_wp2_with fail
 refine (text_any _ bw o ⟨#[40]⟩ HW.out (by decide)).mono ?_
 rintro e w1 ⟨rfl, hr1, hf1⟩
 have I0 := hid (LInv.start (tx := tx) hr1 hf1)
 clear hr1 hf1
 go_wp2
 go_loopw [12] (fun iv wr => ∃ (k : Nat), k ≤ m ∧ iv = .int .i64 k ∧ Hid (LInv o tx bw w k wr)) (fun iv _ => m - (intOf iv).toNat)
 case atStart => exact ⟨0, by omega, rfl, I0⟩
 case round =>
  obtain ⟨k, hk, rfl, hI⟩ := hrel
  clear I0
  have hbwr : bw < wr.heap.size := by have := hI.out.2.1.size; omega
  by_cases hlt : k < m
  ·obtain ⟨b, off, hA, hD, hblt, hcells⟩ := HCL.out (by omega)
   subst hA
   have hrk := HRP.out k hlt
   obtain ⟨zA, zk, zc, hus⟩ := ty_list hrk.ty
   have hsz := HSZ.out
   have e0 : wr.cell? ⟨b, off + k, none⟩ = some (.slice zA zk zc) := by
    have h9 := (hI.out.2.1.cell (p := ⟨b, off + k * Shape.sz (.list .int) + 0, none⟩) hD).trans (hcells k hlt 0 (.slice zA zk zc) (by rw [hus]; rfl))
    rw [hsz] at h9
    simpa using h9
   have c2 := hI.out.1.cell
   rw [hus] at hrk
   have HRK := hid (hrk.wfr hI.out.2)
   clear hus hrk hcells hsz
   cases hf : listed o tx k with
   | none =>
    rw [hf] at c2
    have HF := hid hf
    clear hf
    go_wp2
    go_end0
    exact hI.out.full (n := m) (by omega) HF.out (Wfr.refl bw wr) (by have := hI.out.1; rw [HF.out] at this; exact this)
   | some l =>
    rw [hf] at c2
    have HF := hid hf
    clear hf
    by_cases hk0 : k = 0
    ·subst hk0
     simp only [Nat.zero_mul, Nat.add_zero] at e0
     have key := HE.out wr (listed o tx 0) [.slice zA zk zc] (tx 0) (hI.out.2.trans (Wfr.refl bw wr)) hI.out.1 HRK.out
     rw [val_list] at key
     have KEY := hid key
     clear key
     go_wp2_with fail
     refine (show Calls Tryz.prog g (fi ++ #[.slice zA zk zc] ++ ca) _ _ from KEY.out).mono ?_
     rintro e w2 ⟨rfl, hw2, hf2⟩
     have HI2 := hid (hI.out.first ((Wfr.refl bw wr).trans hf2) hw2)
     clear hw2 hf2
     go_wp2
     go_roundw
     case rel => exact ⟨1, by omega, by go_num, HI2⟩
     case measure => simp [intOf]; omega
    ·have hkp : decide (0 < (k : Int)) = true := by simp; omega
     go_wp2_with fail
     refine (text_any _ bw (listed o tx k) ⟨#[32]⟩ hI.out.1 (by decide)).mono ?_
     rintro e w2 ⟨rfl, hw2, hf2⟩
     have HF2 := hid hf2
     have key := HE.out w2 (put (listed o tx k) [32]) [.slice zA zk zc] (tx k) (hI.out.2.trans ((Wfr.refl bw wr).trans hf2)) hw2 (HRK.out.wfr hf2)
     rw [val_list] at key
     have KEY := hid key
     clear key hw2 hf2
     go_wp2_with fail
     refine (show Calls Tryz.prog g (fi ++ #[.slice zA zk zc] ++ ca) _ _ from KEY.out).mono ?_
     rintro e w3 ⟨rfl, hw3, hf3⟩
     have HI2 := hid (hI.out.next (by omega) (((Wfr.refl bw wr).trans HF2.out).trans hf3) hw3)
     clear hw3 hf3
     go_wp2
     go_roundw
     case rel => exact ⟨k + 1, by omega, by go_num, HI2⟩
     case measure => simp [intOf]; omega
  ·obtain rfl : k = m := by omega
   go_wp2_with fail
   refine (text_any _ bw (listed o tx k) ⟨#[41]⟩ hI.out.1 (by decide)).mono ?_
   rintro e w2 ⟨rfl, hr2, hf2⟩
   go_wp2
   go_end0
   exact hI.out.last hf2 hr2
set_option maxHeartbeats 2000000 in
set_option maxRecDepth 100000 in
theorem ls_l_axiomUse (n : Nat) (g : FuncId) (fi ca : Array Value) (w : World) (bw : Nat) (o : Option (List UInt8)) (A : Option Addr) (m c : Nat) (t : List UInt8) (h : Wst w bw o) (hrep : Rep w (· < bw) (.list (.list (axuS n))) [.slice A m c] [t]) (hel : ElW g fi ca (.list (axuS n)) bw w) :
 Calls Tryz.prog 130 #[.pointer (some ⟨bw, 0, none⟩), .slice A m c, .func (.func g) fi ca] w (WRet bw w (put o t)) := by
 obtain ⟨he, hel⟩ := hel
 unfold Enters at he
 obtain ⟨A', m', c', us, tx, hl, hmc, hcm, ht, hcl, hrp⟩ := hrep
 injection hl with hl _
 injection hl with hl1 hl2 hl3
 subst hl1; subst hl2; subst hl3
 injection ht with ht _
 subst ht
 have hbw := h.lt
 have hsz : Shape.sz (.list (axuS n)) = 1 := rfl
 unfold maxLen at hcm
 have HW := hid h
 have HE := hid hel
 have HCL := hid hcl
 have HRP := hid hrp
 have HSZ := hid hsz
 clear h hel hcl hrp hsz
 go_enter Tryz.func130, Tryz.ntmps130
 go_wp2_with fail
 refine (text_any _ bw o ⟨#[40]⟩ HW.out (by decide)).mono ?_
 rintro e w1 ⟨rfl, hr1, hf1⟩
 have I0 := hid (LInv.start (tx := tx) hr1 hf1)
 clear hr1 hf1
 go_wp2
 go_loopw [12] (fun iv wr => ∃ (k : Nat), k ≤ m ∧ iv = .int .i64 k ∧ Hid (LInv o tx bw w k wr)) (fun iv _ => m - (intOf iv).toNat)
 case atStart => exact ⟨0, by omega, rfl, I0⟩
 case round =>
  obtain ⟨k, hk, rfl, hI⟩ := hrel
  clear I0
  have hbwr : bw < wr.heap.size := by have := hI.out.2.1.size; omega
  by_cases hlt : k < m
  ·obtain ⟨b, off, hA, hD, hblt, hcells⟩ := HCL.out (by omega)
   subst hA
   have hrk := HRP.out k hlt
   obtain ⟨zA, zk, zc, hus⟩ := ty_list hrk.ty
   have hsz := HSZ.out
   have e0 : wr.cell? ⟨b, off + k, none⟩ = some (.slice zA zk zc) := by
    have h9 := (hI.out.2.1.cell (p := ⟨b, off + k * Shape.sz (.list (axuS n)) + 0, none⟩) hD).trans (hcells k hlt 0 (.slice zA zk zc) (by rw [hus]; rfl))
    rw [hsz] at h9
    simpa using h9
   have c2 := hI.out.1.cell
   rw [hus] at hrk
   have HRK := hid (hrk.wfr hI.out.2)
   clear hus hrk hcells hsz
   cases hf : listed o tx k with
   | none =>
    rw [hf] at c2
    have HF := hid hf
    clear hf
    go_wp2
    go_end0
    exact hI.out.full (n := m) (by omega) HF.out (Wfr.refl bw wr) (by have := hI.out.1; rw [HF.out] at this; exact this)
   | some l =>
    rw [hf] at c2
    have HF := hid hf
    clear hf
    by_cases hk0 : k = 0
    ·subst hk0
     simp only [Nat.zero_mul, Nat.add_zero] at e0
     have key := HE.out wr (listed o tx 0) [.slice zA zk zc] (tx 0) (hI.out.2.trans (Wfr.refl bw wr)) hI.out.1 HRK.out
     rw [val_list] at key
     have KEY := hid key
     clear key
     go_wp2_with fail
     refine (show Calls Tryz.prog g (fi ++ #[.slice zA zk zc] ++ ca) _ _ from KEY.out).mono ?_
     rintro e w2 ⟨rfl, hw2, hf2⟩
     have HI2 := hid (hI.out.first ((Wfr.refl bw wr).trans hf2) hw2)
     clear hw2 hf2
     go_wp2
     go_roundw
     case rel => exact ⟨1, by omega, by go_num, HI2⟩
     case measure => simp [intOf]; omega
    ·have hkp : decide (0 < (k : Int)) = true := by simp; omega
     go_wp2_with fail
     refine (text_any _ bw (listed o tx k) ⟨#[32]⟩ hI.out.1 (by decide)).mono ?_
     rintro e w2 ⟨rfl, hw2, hf2⟩
     have HF2 := hid hf2
     have key := HE.out w2 (put (listed o tx k) [32]) [.slice zA zk zc] (tx k) (hI.out.2.trans ((Wfr.refl bw wr).trans hf2)) hw2 (HRK.out.wfr hf2)
     rw [val_list] at key
     have KEY := hid key
     clear key hw2 hf2
     go_wp2_with fail
     refine (show Calls Tryz.prog g (fi ++ #[.slice zA zk zc] ++ ca) _ _ from KEY.out).mono ?_
     rintro e w3 ⟨rfl, hw3, hf3⟩
     have HI2 := hid (hI.out.next (by omega) (((Wfr.refl bw wr).trans HF2.out).trans hf3) hw3)
     clear hw3 hf3
     go_wp2
     go_roundw
     case rel => exact ⟨k + 1, by omega, by go_num, HI2⟩
     case measure => simp [intOf]; omega
  ·obtain rfl : k = m := by omega
   go_wp2_with fail
   refine (text_any _ bw (listed o tx k) ⟨#[41]⟩ hI.out.1 (by decide)).mono ?_
   rintro e w2 ⟨rfl, hr2, hf2⟩
   go_wp2
   go_end0
   exact hI.out.last hf2 hr2
set_option maxHeartbeats 2000000 in
set_option maxRecDepth 100000 in
theorem ls_linTerm (g : FuncId) (fi ca : Array Value) (w : World) (bw : Nat) (o : Option (List UInt8)) (A : Option Addr) (m c : Nat) (t : List UInt8) (h : Wst w bw o) (hrep : Rep w (· < bw) (.list linTermS) [.slice A m c] [t]) (hel : ElW g fi ca linTermS bw w) :
 Calls Tryz.prog 195 #[.pointer (some ⟨bw, 0, none⟩), .slice A m c, .func (.func g) fi ca] w (WRet bw w (put o t)) := by
 obtain ⟨he, hel⟩ := hel
 unfold Enters at he
 obtain ⟨A', m', c', us, tx, hl, hmc, hcm, ht, hcl, hrp⟩ := hrep
 injection hl with hl _
 injection hl with hl1 hl2 hl3
 subst hl1; subst hl2; subst hl3
 injection ht with ht _
 subst ht
 have hbw := h.lt
 have hsz : Shape.sz linTermS = 2 := sz_linTerm
 unfold maxLen at hcm
 have HW := hid h
 have HE := hid hel
 have HCL := hid hcl
 have HRP := hid hrp
 have HSZ := hid hsz
 clear h hel hcl hrp hsz
 go_enter Tryz.func195, Tryz.ntmps195
 go_wp2_with fail
 refine (text_any _ bw o ⟨#[40]⟩ HW.out (by decide)).mono ?_
 rintro e w1 ⟨rfl, hr1, hf1⟩
 have I0 := hid (LInv.start (tx := tx) hr1 hf1)
 clear hr1 hf1
 go_wp2
 go_loopw [12] (fun iv wr => ∃ (k : Nat), k ≤ m ∧ iv = .int .i64 k ∧ Hid (LInv o tx bw w k wr)) (fun iv _ => m - (intOf iv).toNat)
 case atStart => exact ⟨0, by omega, rfl, I0⟩
 case round =>
  obtain ⟨k, hk, rfl, hI⟩ := hrel
  clear I0
  have hbwr : bw < wr.heap.size := by have := hI.out.2.1.size; omega
  by_cases hlt : k < m
  ·obtain ⟨b, off, hA, hD, hblt, hcells⟩ := HCL.out (by omega)
   subst hA
   have hrk := HRP.out k hlt
   obtain ⟨z0n, z1n, hus⟩ := ty_linTerm hrk.ty
   have hsz := HSZ.out
   have e0 : wr.cell? ⟨b, off + k * 2, none⟩ = some (.int .i64 z0n) := by
    have h9 := (hI.out.2.1.cell (p := ⟨b, off + k * Shape.sz linTermS + 0, none⟩) hD).trans (hcells k hlt 0 (.int .i64 z0n) (by rw [hus]; rfl))
    rw [hsz] at h9
    simpa using h9
   have e1 : wr.cell? ⟨b, off + k * 2 + 1, none⟩ = some (.int .i64 z1n) := by
    have h9 := (hI.out.2.1.cell (p := ⟨b, off + k * Shape.sz linTermS + 1, none⟩) hD).trans (hcells k hlt 1 (.int .i64 z1n) (by rw [hus]; rfl))
    rw [hsz] at h9
    simpa using h9
   have c2 := hI.out.1.cell
   rw [hus] at hrk
   have HRK := hid (hrk.wfr hI.out.2)
   clear hus hrk hcells hsz
   cases hf : listed o tx k with
   | none =>
    rw [hf] at c2
    have HF := hid hf
    clear hf
    go_wp2
    go_end0
    exact hI.out.full (n := m) (by omega) HF.out ((Wfr.refl bw wr).allocs hbwr (.cells #[.int .i64 z0n, .int .i64 z1n] 195)) (by have := (hI.out.1.alloc (.cells #[.int .i64 z0n, .int .i64 z1n] 195)); rw [HF.out] at this; exact this)
   | some l =>
    rw [hf] at c2
    have HF := hid hf
    clear hf
    by_cases hk0 : k = 0
    ·subst hk0
     simp only [Nat.zero_mul, Nat.add_zero] at e0 e1
     have key := HE.out (wr.alloc (.cells #[.int .i64 z0n, .int .i64 z1n] 195)) (listed o tx 0) [.int .i64 z0n, .int .i64 z1n] (tx 0) (hI.out.2.trans ((Wfr.refl bw wr).allocs hbwr (.cells #[.int .i64 z0n, .int .i64 z1n] 195))) (hI.out.1.alloc (.cells #[.int .i64 z0n, .int .i64 z1n] 195)) (HRK.out.allocW _)
     rw [val_linTerm] at key
     have KEY := hid key
     clear key
     go_wp2_with fail
     refine (show Calls Tryz.prog g (fi ++ #[.agg #[.int .i64 z0n, .int .i64 z1n]] ++ ca) _ _ from KEY.out).mono ?_
     rintro e w2 ⟨rfl, hw2, hf2⟩
     have HI2 := hid (hI.out.first (((Wfr.refl bw wr).allocs hbwr (.cells #[.int .i64 z0n, .int .i64 z1n] 195)).trans hf2) hw2)
     clear hw2 hf2
     go_wp2
     go_roundw
     case rel => exact ⟨1, by omega, by go_num, HI2⟩
     case measure => simp [intOf]; omega
    ·have hkp : decide (0 < (k : Int)) = true := by simp; omega
     go_wp2_with fail
     refine (text_any _ bw (listed o tx k) ⟨#[32]⟩ (hI.out.1.alloc (.cells #[.int .i64 z0n, .int .i64 z1n] 195)) (by decide)).mono ?_
     rintro e w2 ⟨rfl, hw2, hf2⟩
     have HF2 := hid hf2
     have hbx := HF2.out.2 wr.heap.size _ 195 (by omega) (by decide) (Bk.new wr 195 #[.int .i64 z0n, .int .i64 z1n])
     have b0 := hbx.cell 0
     have b1 := hbx.cell 1
     simp only [gq] at b0 b1
     clear hbx
     have key := HE.out w2 (put (listed o tx k) [32]) [.int .i64 z0n, .int .i64 z1n] (tx k) (hI.out.2.trans (((Wfr.refl bw wr).allocs hbwr (.cells #[.int .i64 z0n, .int .i64 z1n] 195)).trans hf2)) hw2 ((HRK.out.allocW _).wfr hf2)
     rw [val_linTerm] at key
     have KEY := hid key
     clear key hw2 hf2
     go_wp2_with fail
     refine (show Calls Tryz.prog g (fi ++ #[.agg #[.int .i64 z0n, .int .i64 z1n]] ++ ca) _ _ from KEY.out).mono ?_
     rintro e w3 ⟨rfl, hw3, hf3⟩
     have HI2 := hid (hI.out.next (by omega) ((((Wfr.refl bw wr).allocs hbwr (.cells #[.int .i64 z0n, .int .i64 z1n] 195)).trans HF2.out).trans hf3) hw3)
     clear hw3 hf3
     go_wp2
     go_roundw
     case rel => exact ⟨k + 1, by omega, by go_num, HI2⟩
     case measure => simp [intOf]; omega
  ·obtain rfl : k = m := by omega
   go_wp2_with fail
   refine (text_any _ bw (listed o tx k) ⟨#[41]⟩ hI.out.1 (by decide)).mono ?_
   rintro e w2 ⟨rfl, hr2, hf2⟩
   go_wp2
   go_end0
   exact hI.out.last hf2 hr2
set_option maxHeartbeats 2000000 in
set_option maxRecDepth 100000 in
theorem ls_lin (g : FuncId) (fi ca : Array Value) (w : World) (bw : Nat) (o : Option (List UInt8)) (A : Option Addr) (m c : Nat) (t : List UInt8) (h : Wst w bw o) (hrep : Rep w (· < bw) (.list linS) [.slice A m c] [t]) (hel : ElW g fi ca linS bw w) :
 Calls Tryz.prog 101 #[.pointer (some ⟨bw, 0, none⟩), .slice A m c, .func (.func g) fi ca] w (WRet bw w (put o t)) := by
 obtain ⟨he, hel⟩ := hel
 unfold Enters at he
 obtain ⟨A', m', c', us, tx, hl, hmc, hcm, ht, hcl, hrp⟩ := hrep
 injection hl with hl _
 injection hl with hl1 hl2 hl3
 subst hl1; subst hl2; subst hl3
 injection ht with ht _
 subst ht
 have hbw := h.lt
 have hsz : Shape.sz linS = 2 := sz_lin
 unfold maxLen at hcm
 have HW := hid h
 have HE := hid hel
 have HCL := hid hcl
 have HRP := hid hrp
 have HSZ := hid hsz
 clear h hel hcl hrp hsz
 go_enter Tryz.func101, Tryz.ntmps101
 go_wp2_with fail
 refine (text_any _ bw o ⟨#[40]⟩ HW.out (by decide)).mono ?_
 rintro e w1 ⟨rfl, hr1, hf1⟩
 have I0 := hid (LInv.start (tx := tx) hr1 hf1)
 clear hr1 hf1
 go_wp2
 go_loopw [12] (fun iv wr => ∃ (k : Nat), k ≤ m ∧ iv = .int .i64 k ∧ Hid (LInv o tx bw w k wr)) (fun iv _ => m - (intOf iv).toNat)
 case atStart => exact ⟨0, by omega, rfl, I0⟩
 case round =>
  obtain ⟨k, hk, rfl, hI⟩ := hrel
  clear I0
  have hbwr : bw < wr.heap.size := by have := hI.out.2.1.size; omega
  by_cases hlt : k < m
  ·obtain ⟨b, off, hA, hD, hblt, hcells⟩ := HCL.out (by omega)
   subst hA
   have hrk := HRP.out k hlt
   obtain ⟨z0n, z1A, z1k, z1c, hus⟩ := ty_lin hrk.ty
   have hsz := HSZ.out
   have e0 : wr.cell? ⟨b, off + k * 2, none⟩ = some (.int .i64 z0n) := by
    have h9 := (hI.out.2.1.cell (p := ⟨b, off + k * Shape.sz linS + 0, none⟩) hD).trans (hcells k hlt 0 (.int .i64 z0n) (by rw [hus]; rfl))
    rw [hsz] at h9
    simpa using h9
   have e1 : wr.cell? ⟨b, off + k * 2 + 1, none⟩ = some (.slice z1A z1k z1c) := by
    have h9 := (hI.out.2.1.cell (p := ⟨b, off + k * Shape.sz linS + 1, none⟩) hD).trans (hcells k hlt 1 (.slice z1A z1k z1c) (by rw [hus]; rfl))
    rw [hsz] at h9
    simpa using h9
   have c2 := hI.out.1.cell
   rw [hus] at hrk
   have HRK := hid (hrk.wfr hI.out.2)
   clear hus hrk hcells hsz
   cases hf : listed o tx k with
   | none =>
    rw [hf] at c2
    have HF := hid hf
    clear hf
    go_wp2
    go_end0
    exact hI.out.full (n := m) (by omega) HF.out ((Wfr.refl bw wr).allocs hbwr (.cells #[.int .i64 z0n, .slice z1A z1k z1c] 130)) (by have := (hI.out.1.alloc (.cells #[.int .i64 z0n, .slice z1A z1k z1c] 130)); rw [HF.out] at this; exact this)
   | some l =>
    rw [hf] at c2
    have HF := hid hf
    clear hf
    by_cases hk0 : k = 0
    ·subst hk0
     simp only [Nat.zero_mul, Nat.add_zero] at e0 e1
     have key := HE.out (wr.alloc (.cells #[.int .i64 z0n, .slice z1A z1k z1c] 130)) (listed o tx 0) [.int .i64 z0n, .slice z1A z1k z1c] (tx 0) (hI.out.2.trans ((Wfr.refl bw wr).allocs hbwr (.cells #[.int .i64 z0n, .slice z1A z1k z1c] 130))) (hI.out.1.alloc (.cells #[.int .i64 z0n, .slice z1A z1k z1c] 130)) (HRK.out.allocW _)
     rw [val_lin] at key
     have KEY := hid key
     clear key
     go_wp2_with fail
     refine (show Calls Tryz.prog g (fi ++ #[.agg #[.int .i64 z0n, .slice z1A z1k z1c]] ++ ca) _ _ from KEY.out).mono ?_
     rintro e w2 ⟨rfl, hw2, hf2⟩
     have HI2 := hid (hI.out.first (((Wfr.refl bw wr).allocs hbwr (.cells #[.int .i64 z0n, .slice z1A z1k z1c] 130)).trans hf2) hw2)
     clear hw2 hf2
     go_wp2
     go_roundw
     case rel => exact ⟨1, by omega, by go_num, HI2⟩
     case measure => simp [intOf]; omega
    ·have hkp : decide (0 < (k : Int)) = true := by simp; omega
     go_wp2_with fail
     refine (text_any _ bw (listed o tx k) ⟨#[32]⟩ (hI.out.1.alloc (.cells #[.int .i64 z0n, .slice z1A z1k z1c] 130)) (by decide)).mono ?_
     rintro e w2 ⟨rfl, hw2, hf2⟩
     have HF2 := hid hf2
     have hbx := HF2.out.2 wr.heap.size _ 130 (by omega) (by decide) (Bk.new wr 130 #[.int .i64 z0n, .slice z1A z1k z1c])
     have b0 := hbx.cell 0
     have b1 := hbx.cell 1
     simp only [gq] at b0 b1
     clear hbx
     have key := HE.out w2 (put (listed o tx k) [32]) [.int .i64 z0n, .slice z1A z1k z1c] (tx k) (hI.out.2.trans (((Wfr.refl bw wr).allocs hbwr (.cells #[.int .i64 z0n, .slice z1A z1k z1c] 130)).trans hf2)) hw2 ((HRK.out.allocW _).wfr hf2)
     rw [val_lin] at key
     have KEY := hid key
     clear key hw2 hf2
     go_wp2_with fail
     refine (show Calls Tryz.prog g (fi ++ #[.agg #[.int .i64 z0n, .slice z1A z1k z1c]] ++ ca) _ _ from KEY.out).mono ?_
     rintro e w3 ⟨rfl, hw3, hf3⟩
     have HI2 := hid (hI.out.next (by omega) ((((Wfr.refl bw wr).allocs hbwr (.cells #[.int .i64 z0n, .slice z1A z1k z1c] 130)).trans HF2.out).trans hf3) hw3)
     clear hw3 hf3
     go_wp2
     go_roundw
     case rel => exact ⟨k + 1, by omega, by go_num, HI2⟩
     case measure => simp [intOf]; omega
  ·obtain rfl : k = m := by omega
   go_wp2_with fail
   refine (text_any _ bw (listed o tx k) ⟨#[41]⟩ hI.out.1 (by decide)).mono ?_
   rintro e w2 ⟨rfl, hr2, hf2⟩
   go_wp2
   go_end0
   exact hI.out.last hf2 hr2
set_option maxHeartbeats 2000000 in
set_option maxRecDepth 100000 in
theorem ls_relation (g : FuncId) (fi ca : Array Value) (w : World) (bw : Nat) (o : Option (List UInt8)) (A : Option Addr) (m c : Nat) (t : List UInt8) (h : Wst w bw o) (hrep : Rep w (· < bw) (.list relationS) [.slice A m c] [t]) (hel : ElW g fi ca relationS bw w) :
 Calls Tryz.prog 50 #[.pointer (some ⟨bw, 0, none⟩), .slice A m c, .func (.func g) fi ca] w (WRet bw w (put o t)) := by
 obtain ⟨he, hel⟩ := hel
 unfold Enters at he
 obtain ⟨A', m', c', us, tx, hl, hmc, hcm, ht, hcl, hrp⟩ := hrep
 injection hl with hl _
 injection hl with hl1 hl2 hl3
 subst hl1; subst hl2; subst hl3
 injection ht with ht _
 subst ht
 have hbw := h.lt
 have hsz : Shape.sz relationS = 2 := sz_relation
 unfold maxLen at hcm
 have HW := hid h
 have HE := hid hel
 have HCL := hid hcl
 have HRP := hid hrp
 have HSZ := hid hsz
 clear h hel hcl hrp hsz
 go_enter Tryz.func50, Tryz.ntmps50
 go_wp2_with fail
 refine (text_any _ bw o ⟨#[40]⟩ HW.out (by decide)).mono ?_
 rintro e w1 ⟨rfl, hr1, hf1⟩
 have I0 := hid (LInv.start (tx := tx) hr1 hf1)
 clear hr1 hf1
 go_wp2
 go_loopw [12] (fun iv wr => ∃ (k : Nat), k ≤ m ∧ iv = .int .i64 k ∧ Hid (LInv o tx bw w k wr)) (fun iv _ => m - (intOf iv).toNat)
 case atStart => exact ⟨0, by omega, rfl, I0⟩
 case round =>
  obtain ⟨k, hk, rfl, hI⟩ := hrel
  clear I0
  have hbwr : bw < wr.heap.size := by have := hI.out.2.1.size; omega
  by_cases hlt : k < m
  ·obtain ⟨b, off, hA, hD, hblt, hcells⟩ := HCL.out (by omega)
   subst hA
   have hrk := HRP.out k hlt
   obtain ⟨z0A, z0k, z0c, z1A, z1k, z1c, hus⟩ := ty_relation hrk.ty
   have hsz := HSZ.out
   have e0 : wr.cell? ⟨b, off + k * 2, none⟩ = some (.slice z0A z0k z0c) := by
    have h9 := (hI.out.2.1.cell (p := ⟨b, off + k * Shape.sz relationS + 0, none⟩) hD).trans (hcells k hlt 0 (.slice z0A z0k z0c) (by rw [hus]; rfl))
    rw [hsz] at h9
    simpa using h9
   have e1 : wr.cell? ⟨b, off + k * 2 + 1, none⟩ = some (.slice z1A z1k z1c) := by
    have h9 := (hI.out.2.1.cell (p := ⟨b, off + k * Shape.sz relationS + 1, none⟩) hD).trans (hcells k hlt 1 (.slice z1A z1k z1c) (by rw [hus]; rfl))
    rw [hsz] at h9
    simpa using h9
   have c2 := hI.out.1.cell
   rw [hus] at hrk
   have HRK := hid (hrk.wfr hI.out.2)
   clear hus hrk hcells hsz
   cases hf : listed o tx k with
   | none =>
    rw [hf] at c2
    have HF := hid hf
    clear hf
    go_wp2
    go_end0
    exact hI.out.full (n := m) (by omega) HF.out ((Wfr.refl bw wr).allocs hbwr (.cells #[.slice z0A z0k z0c, .slice z1A z1k z1c] 87)) (by have := (hI.out.1.alloc (.cells #[.slice z0A z0k z0c, .slice z1A z1k z1c] 87)); rw [HF.out] at this; exact this)
   | some l =>
    rw [hf] at c2
    have HF := hid hf
    clear hf
    by_cases hk0 : k = 0
    ·subst hk0
     simp only [Nat.zero_mul, Nat.add_zero] at e0 e1
     have key := HE.out (wr.alloc (.cells #[.slice z0A z0k z0c, .slice z1A z1k z1c] 87)) (listed o tx 0) [.slice z0A z0k z0c, .slice z1A z1k z1c] (tx 0) (hI.out.2.trans ((Wfr.refl bw wr).allocs hbwr (.cells #[.slice z0A z0k z0c, .slice z1A z1k z1c] 87))) (hI.out.1.alloc (.cells #[.slice z0A z0k z0c, .slice z1A z1k z1c] 87)) (HRK.out.allocW _)
     rw [val_relation] at key
     have KEY := hid key
     clear key
     go_wp2_with fail
     refine (show Calls Tryz.prog g (fi ++ #[.agg #[.slice z0A z0k z0c, .slice z1A z1k z1c]] ++ ca) _ _ from KEY.out).mono ?_
     rintro e w2 ⟨rfl, hw2, hf2⟩
     have HI2 := hid (hI.out.first (((Wfr.refl bw wr).allocs hbwr (.cells #[.slice z0A z0k z0c, .slice z1A z1k z1c] 87)).trans hf2) hw2)
     clear hw2 hf2
     go_wp2
     go_roundw
     case rel => exact ⟨1, by omega, by go_num, HI2⟩
     case measure => simp [intOf]; omega
    ·have hkp : decide (0 < (k : Int)) = true := by simp; omega
     go_wp2_with fail
     refine (text_any _ bw (listed o tx k) ⟨#[32]⟩ (hI.out.1.alloc (.cells #[.slice z0A z0k z0c, .slice z1A z1k z1c] 87)) (by decide)).mono ?_
     rintro e w2 ⟨rfl, hw2, hf2⟩
     have HF2 := hid hf2
     have hbx := HF2.out.2 wr.heap.size _ 87 (by omega) (by decide) (Bk.new wr 87 #[.slice z0A z0k z0c, .slice z1A z1k z1c])
     have b0 := hbx.cell 0
     have b1 := hbx.cell 1
     simp only [gq] at b0 b1
     clear hbx
     have key := HE.out w2 (put (listed o tx k) [32]) [.slice z0A z0k z0c, .slice z1A z1k z1c] (tx k) (hI.out.2.trans (((Wfr.refl bw wr).allocs hbwr (.cells #[.slice z0A z0k z0c, .slice z1A z1k z1c] 87)).trans hf2)) hw2 ((HRK.out.allocW _).wfr hf2)
     rw [val_relation] at key
     have KEY := hid key
     clear key hw2 hf2
     go_wp2_with fail
     refine (show Calls Tryz.prog g (fi ++ #[.agg #[.slice z0A z0k z0c, .slice z1A z1k z1c]] ++ ca) _ _ from KEY.out).mono ?_
     rintro e w3 ⟨rfl, hw3, hf3⟩
     have HI2 := hid (hI.out.next (by omega) ((((Wfr.refl bw wr).allocs hbwr (.cells #[.slice z0A z0k z0c, .slice z1A z1k z1c] 87)).trans HF2.out).trans hf3) hw3)
     clear hw3 hf3
     go_wp2
     go_roundw
     case rel => exact ⟨k + 1, by omega, by go_num, HI2⟩
     case measure => simp [intOf]; omega
  ·obtain rfl : k = m := by omega
   go_wp2_with fail
   refine (text_any _ bw (listed o tx k) ⟨#[41]⟩ hI.out.1 (by decide)).mono ?_
   rintro e w2 ⟨rfl, hr2, hf2⟩
   go_wp2
   go_end0
   exact hI.out.last hf2 hr2
set_option maxHeartbeats 2000000 in
set_option maxRecDepth 100000 in
theorem ls_typ (n : Nat) (g : FuncId) (fi ca : Array Value) (w : World) (bw : Nat) (o : Option (List UInt8)) (A : Option Addr) (m c : Nat) (t : List UInt8) (h : Wst w bw o) (hrep : Rep w (· < bw) (.list (typS n)) [.slice A m c] [t]) (hel : ElW g fi ca (typS n) bw w) :
 Calls Tryz.prog 264 #[.pointer (some ⟨bw, 0, none⟩), .slice A m c, .func (.func g) fi ca] w (WRet bw w (put o t)) := by
 obtain ⟨he, hel⟩ := hel
 unfold Enters at he
 obtain ⟨A', m', c', us, tx, hl, hmc, hcm, ht, hcl, hrp⟩ := hrep
 injection hl with hl _
 injection hl with hl1 hl2 hl3
 subst hl1; subst hl2; subst hl3
 injection ht with ht _
 subst ht
 have hbw := h.lt
 have hsz : Shape.sz (typS n) = 3 := sz_typ
 unfold maxLen at hcm
 have HW := hid h
 have HE := hid hel
 have HCL := hid hcl
 have HRP := hid hrp
 have HSZ := hid hsz
 clear h hel hcl hrp hsz
 go_enter Tryz.func264, Tryz.ntmps264
 go_wp2_with fail
 refine (text_any _ bw o ⟨#[40]⟩ HW.out (by decide)).mono ?_
 rintro e w1 ⟨rfl, hr1, hf1⟩
 have I0 := hid (LInv.start (tx := tx) hr1 hf1)
 clear hr1 hf1
 go_wp2
 go_loopw [12] (fun iv wr => ∃ (k : Nat), k ≤ m ∧ iv = .int .i64 k ∧ Hid (LInv o tx bw w k wr)) (fun iv _ => m - (intOf iv).toNat)
 case atStart => exact ⟨0, by omega, rfl, I0⟩
 case round =>
  obtain ⟨k, hk, rfl, hI⟩ := hrel
  clear I0
  have hbwr : bw < wr.heap.size := by have := hI.out.2.1.size; omega
  by_cases hlt : k < m
  ·obtain ⟨b, off, hA, hD, hblt, hcells⟩ := HCL.out (by omega)
   subst hA
   have hrk := HRP.out k hlt
   obtain ⟨z0n, z1n, z2A, z2k, z2c, hus⟩ := ty_typ hrk.ty
   have hsz := HSZ.out
   have e0 : wr.cell? ⟨b, off + k * 3, none⟩ = some (.int .i64 z0n) := by
    have h9 := (hI.out.2.1.cell (p := ⟨b, off + k * Shape.sz (typS n) + 0, none⟩) hD).trans (hcells k hlt 0 (.int .i64 z0n) (by rw [hus]; rfl))
    rw [hsz] at h9
    simpa using h9
   have e1 : wr.cell? ⟨b, off + k * 3 + 1, none⟩ = some (.int .i64 z1n) := by
    have h9 := (hI.out.2.1.cell (p := ⟨b, off + k * Shape.sz (typS n) + 1, none⟩) hD).trans (hcells k hlt 1 (.int .i64 z1n) (by rw [hus]; rfl))
    rw [hsz] at h9
    simpa using h9
   have e2 : wr.cell? ⟨b, off + k * 3 + 2, none⟩ = some (.slice z2A z2k z2c) := by
    have h9 := (hI.out.2.1.cell (p := ⟨b, off + k * Shape.sz (typS n) + 2, none⟩) hD).trans (hcells k hlt 2 (.slice z2A z2k z2c) (by rw [hus]; rfl))
    rw [hsz] at h9
    simpa using h9
   have c2 := hI.out.1.cell
   rw [hus] at hrk
   have HRK := hid (hrk.wfr hI.out.2)
   clear hus hrk hcells hsz
   cases hf : listed o tx k with
   | none =>
    rw [hf] at c2
    have HF := hid hf
    clear hf
    go_wp2
    go_end0
    exact hI.out.full (n := m) (by omega) HF.out ((Wfr.refl bw wr).allocs hbwr (.cells #[.int .i64 z0n, .int .i64 z1n, .slice z2A z2k z2c] 92)) (by have := (hI.out.1.alloc (.cells #[.int .i64 z0n, .int .i64 z1n, .slice z2A z2k z2c] 92)); rw [HF.out] at this; exact this)
   | some l =>
    rw [hf] at c2
    have HF := hid hf
    clear hf
    by_cases hk0 : k = 0
    ·subst hk0
     simp only [Nat.zero_mul, Nat.add_zero] at e0 e1 e2
     have key := HE.out (wr.alloc (.cells #[.int .i64 z0n, .int .i64 z1n, .slice z2A z2k z2c] 92)) (listed o tx 0) [.int .i64 z0n, .int .i64 z1n, .slice z2A z2k z2c] (tx 0) (hI.out.2.trans ((Wfr.refl bw wr).allocs hbwr (.cells #[.int .i64 z0n, .int .i64 z1n, .slice z2A z2k z2c] 92))) (hI.out.1.alloc (.cells #[.int .i64 z0n, .int .i64 z1n, .slice z2A z2k z2c] 92)) (HRK.out.allocW _)
     rw [val_typ] at key
     have KEY := hid key
     clear key
     go_wp2_with fail
     refine (show Calls Tryz.prog g (fi ++ #[.agg #[.int .i64 z0n, .int .i64 z1n, .slice z2A z2k z2c]] ++ ca) _ _ from KEY.out).mono ?_
     rintro e w2 ⟨rfl, hw2, hf2⟩
     have HI2 := hid (hI.out.first (((Wfr.refl bw wr).allocs hbwr (.cells #[.int .i64 z0n, .int .i64 z1n, .slice z2A z2k z2c] 92)).trans hf2) hw2)
     clear hw2 hf2
     go_wp2
     go_roundw
     case rel => exact ⟨1, by omega, by go_num, HI2⟩
     case measure => simp [intOf]; omega
    ·have hkp : decide (0 < (k : Int)) = true := by simp; omega
     go_wp2_with fail
     refine (text_any _ bw (listed o tx k) ⟨#[32]⟩ (hI.out.1.alloc (.cells #[.int .i64 z0n, .int .i64 z1n, .slice z2A z2k z2c] 92)) (by decide)).mono ?_
     rintro e w2 ⟨rfl, hw2, hf2⟩
     have HF2 := hid hf2
     have hbx := HF2.out.2 wr.heap.size _ 92 (by omega) (by decide) (Bk.new wr 92 #[.int .i64 z0n, .int .i64 z1n, .slice z2A z2k z2c])
     have b0 := hbx.cell 0
     have b1 := hbx.cell 1
     have b2 := hbx.cell 2
     simp only [gq] at b0 b1 b2
     clear hbx
     have key := HE.out w2 (put (listed o tx k) [32]) [.int .i64 z0n, .int .i64 z1n, .slice z2A z2k z2c] (tx k) (hI.out.2.trans (((Wfr.refl bw wr).allocs hbwr (.cells #[.int .i64 z0n, .int .i64 z1n, .slice z2A z2k z2c] 92)).trans hf2)) hw2 ((HRK.out.allocW _).wfr hf2)
     rw [val_typ] at key
     have KEY := hid key
     clear key hw2 hf2
     go_wp2_with fail
     refine (show Calls Tryz.prog g (fi ++ #[.agg #[.int .i64 z0n, .int .i64 z1n, .slice z2A z2k z2c]] ++ ca) _ _ from KEY.out).mono ?_
     rintro e w3 ⟨rfl, hw3, hf3⟩
     have HI2 := hid (hI.out.next (by omega) ((((Wfr.refl bw wr).allocs hbwr (.cells #[.int .i64 z0n, .int .i64 z1n, .slice z2A z2k z2c] 92)).trans HF2.out).trans hf3) hw3)
     clear hw3 hf3
     go_wp2
     go_roundw
     case rel => exact ⟨k + 1, by omega, by go_num, HI2⟩
     case measure => simp [intOf]; omega
  ·obtain rfl : k = m := by omega
   go_wp2_with fail
   refine (text_any _ bw (listed o tx k) ⟨#[41]⟩ hI.out.1 (by decide)).mono ?_
   rintro e w2 ⟨rfl, hr2, hf2⟩
   go_wp2
   go_end0
   exact hI.out.last hf2 hr2
set_option maxHeartbeats 2000000 in
set_option maxRecDepth 100000 in
theorem ls_store (n : Nat) (g : FuncId) (fi ca : Array Value) (w : World) (bw : Nat) (o : Option (List UInt8)) (A : Option Addr) (m c : Nat) (t : List UInt8) (h : Wst w bw o) (hrep : Rep w (· < bw) (.list (storeS n)) [.slice A m c] [t]) (hel : ElW g fi ca (storeS n) bw w) :
 Calls Tryz.prog 109 #[.pointer (some ⟨bw, 0, none⟩), .slice A m c, .func (.func g) fi ca] w (WRet bw w (put o t)) := by
 obtain ⟨he, hel⟩ := hel
 unfold Enters at he
 obtain ⟨A', m', c', us, tx, hl, hmc, hcm, ht, hcl, hrp⟩ := hrep
 injection hl with hl _
 injection hl with hl1 hl2 hl3
 subst hl1; subst hl2; subst hl3
 injection ht with ht _
 subst ht
 have hbw := h.lt
 have hsz : Shape.sz (storeS n) = 4 := sz_store
 unfold maxLen at hcm
 have HW := hid h
 have HE := hid hel
 have HCL := hid hcl
 have HRP := hid hrp
 have HSZ := hid hsz
 clear h hel hcl hrp hsz
 go_enter Tryz.func109, Tryz.ntmps109
 go_wp2_with fail
 refine (text_any _ bw o ⟨#[40]⟩ HW.out (by decide)).mono ?_
 rintro e w1 ⟨rfl, hr1, hf1⟩
 have I0 := hid (LInv.start (tx := tx) hr1 hf1)
 clear hr1 hf1
 go_wp2
 go_loopw [12] (fun iv wr => ∃ (k : Nat), k ≤ m ∧ iv = .int .i64 k ∧ Hid (LInv o tx bw w k wr)) (fun iv _ => m - (intOf iv).toNat)
 case atStart => exact ⟨0, by omega, rfl, I0⟩
 case round =>
  obtain ⟨k, hk, rfl, hI⟩ := hrel
  clear I0
  have hbwr : bw < wr.heap.size := by have := hI.out.2.1.size; omega
  by_cases hlt : k < m
  ·obtain ⟨b, off, hA, hD, hblt, hcells⟩ := HCL.out (by omega)
   subst hA
   have hrk := HRP.out k hlt
   obtain ⟨z0_0n, z0_1n, z0_2A, z0_2k, z0_2c, z1A, z1k, z1c, hus⟩ := ty_store hrk.ty
   have hsz := HSZ.out
   have e0 : wr.cell? ⟨b, off + k * 4, none⟩ = some (.int .i64 z0_0n) := by
    have h9 := (hI.out.2.1.cell (p := ⟨b, off + k * Shape.sz (storeS n) + 0, none⟩) hD).trans (hcells k hlt 0 (.int .i64 z0_0n) (by rw [hus]; rfl))
    rw [hsz] at h9
    simpa using h9
   have e1 : wr.cell? ⟨b, off + k * 4 + 1, none⟩ = some (.int .i64 z0_1n) := by
    have h9 := (hI.out.2.1.cell (p := ⟨b, off + k * Shape.sz (storeS n) + 1, none⟩) hD).trans (hcells k hlt 1 (.int .i64 z0_1n) (by rw [hus]; rfl))
    rw [hsz] at h9
    simpa using h9
   have e2 : wr.cell? ⟨b, off + k * 4 + 2, none⟩ = some (.slice z0_2A z0_2k z0_2c) := by
    have h9 := (hI.out.2.1.cell (p := ⟨b, off + k * Shape.sz (storeS n) + 2, none⟩) hD).trans (hcells k hlt 2 (.slice z0_2A z0_2k z0_2c) (by rw [hus]; rfl))
    rw [hsz] at h9
    simpa using h9
   have e3 : wr.cell? ⟨b, off + k * 4 + 3, none⟩ = some (.slice z1A z1k z1c) := by
    have h9 := (hI.out.2.1.cell (p := ⟨b, off + k * Shape.sz (storeS n) + 3, none⟩) hD).trans (hcells k hlt 3 (.slice z1A z1k z1c) (by rw [hus]; rfl))
    rw [hsz] at h9
    simpa using h9
   have c2 := hI.out.1.cell
   rw [hus] at hrk
   have HRK := hid (hrk.wfr hI.out.2)
   clear hus hrk hcells hsz
   cases hf : listed o tx k with
   | none =>
    rw [hf] at c2
    have HF := hid hf
    clear hf
    go_wp2
    go_end0
    exact hI.out.full (n := m) (by omega) HF.out ((Wfr.refl bw wr).allocs hbwr (.cells #[.int .i64 z0_0n, .int .i64 z0_1n, .slice z0_2A z0_2k z0_2c, .slice z1A z1k z1c] 94)) (by have := (hI.out.1.alloc (.cells #[.int .i64 z0_0n, .int .i64 z0_1n, .slice z0_2A z0_2k z0_2c, .slice z1A z1k z1c] 94)); rw [HF.out] at this; exact this)
   | some l =>
    rw [hf] at c2
    have HF := hid hf
    clear hf
    by_cases hk0 : k = 0
    ·subst hk0
     simp only [Nat.zero_mul, Nat.add_zero] at e0 e1 e2 e3
     have key := HE.out (wr.alloc (.cells #[.int .i64 z0_0n, .int .i64 z0_1n, .slice z0_2A z0_2k z0_2c, .slice z1A z1k z1c] 94)) (listed o tx 0) [.int .i64 z0_0n, .int .i64 z0_1n, .slice z0_2A z0_2k z0_2c, .slice z1A z1k z1c] (tx 0) (hI.out.2.trans ((Wfr.refl bw wr).allocs hbwr (.cells #[.int .i64 z0_0n, .int .i64 z0_1n, .slice z0_2A z0_2k z0_2c, .slice z1A z1k z1c] 94))) (hI.out.1.alloc (.cells #[.int .i64 z0_0n, .int .i64 z0_1n, .slice z0_2A z0_2k z0_2c, .slice z1A z1k z1c] 94)) (HRK.out.allocW _)
     rw [val_store] at key
     have KEY := hid key
     clear key
     go_wp2_with fail
     refine (show Calls Tryz.prog g (fi ++ #[.agg #[.int .i64 z0_0n, .int .i64 z0_1n, .slice z0_2A z0_2k z0_2c, .slice z1A z1k z1c]] ++ ca) _ _ from KEY.out).mono ?_
     rintro e w2 ⟨rfl, hw2, hf2⟩
     have HI2 := hid (hI.out.first (((Wfr.refl bw wr).allocs hbwr (.cells #[.int .i64 z0_0n, .int .i64 z0_1n, .slice z0_2A z0_2k z0_2c, .slice z1A z1k z1c] 94)).trans hf2) hw2)
     clear hw2 hf2
     go_wp2
     go_roundw
     case rel => exact ⟨1, by omega, by go_num, HI2⟩
     case measure => simp [intOf]; omega
    ·have hkp : decide (0 < (k : Int)) = true := by simp; omega
     go_wp2_with fail
     refine (text_any _ bw (listed o tx k) ⟨#[32]⟩ (hI.out.1.alloc (.cells #[.int .i64 z0_0n, .int .i64 z0_1n, .slice z0_2A z0_2k z0_2c, .slice z1A z1k z1c] 94)) (by decide)).mono ?_
     rintro e w2 ⟨rfl, hw2, hf2⟩
     have HF2 := hid hf2
     have hbx := HF2.out.2 wr.heap.size _ 94 (by omega) (by decide) (Bk.new wr 94 #[.int .i64 z0_0n, .int .i64 z0_1n, .slice z0_2A z0_2k z0_2c, .slice z1A z1k z1c])
     have b0 := hbx.cell 0
     have b1 := hbx.cell 1
     have b2 := hbx.cell 2
     have b3 := hbx.cell 3
     simp only [gq] at b0 b1 b2 b3
     clear hbx
     have key := HE.out w2 (put (listed o tx k) [32]) [.int .i64 z0_0n, .int .i64 z0_1n, .slice z0_2A z0_2k z0_2c, .slice z1A z1k z1c] (tx k) (hI.out.2.trans (((Wfr.refl bw wr).allocs hbwr (.cells #[.int .i64 z0_0n, .int .i64 z0_1n, .slice z0_2A z0_2k z0_2c, .slice z1A z1k z1c] 94)).trans hf2)) hw2 ((HRK.out.allocW _).wfr hf2)
     rw [val_store] at key
     have KEY := hid key
     clear key hw2 hf2
     go_wp2_with fail
     refine (show Calls Tryz.prog g (fi ++ #[.agg #[.int .i64 z0_0n, .int .i64 z0_1n, .slice z0_2A z0_2k z0_2c, .slice z1A z1k z1c]] ++ ca) _ _ from KEY.out).mono ?_
     rintro e w3 ⟨rfl, hw3, hf3⟩
     have HI2 := hid (hI.out.next (by omega) ((((Wfr.refl bw wr).allocs hbwr (.cells #[.int .i64 z0_0n, .int .i64 z0_1n, .slice z0_2A z0_2k z0_2c, .slice z1A z1k z1c] 94)).trans HF2.out).trans hf3) hw3)
     clear hw3 hf3
     go_wp2
     go_roundw
     case rel => exact ⟨k + 1, by omega, by go_num, HI2⟩
     case measure => simp [intOf]; omega
  ·obtain rfl : k = m := by omega
   go_wp2_with fail
   refine (text_any _ bw (listed o tx k) ⟨#[41]⟩ hI.out.1 (by decide)).mono ?_
   rintro e w2 ⟨rfl, hr2, hf2⟩
   go_wp2
   go_end0
   exact hI.out.last hf2 hr2
set_option maxHeartbeats 2000000 in
set_option maxRecDepth 100000 in
theorem ls_index (n : Nat) (g : FuncId) (fi ca : Array Value) (w : World) (bw : Nat) (o : Option (List UInt8)) (A : Option Addr) (m c : Nat) (t : List UInt8) (h : Wst w bw o) (hrep : Rep w (· < bw) (.list (indexS n)) [.slice A m c] [t]) (hel : ElW g fi ca (indexS n) bw w) :
 Calls Tryz.prog 347 #[.pointer (some ⟨bw, 0, none⟩), .slice A m c, .func (.func g) fi ca] w (WRet bw w (put o t)) := by
 obtain ⟨he, hel⟩ := hel
 unfold Enters at he
 obtain ⟨A', m', c', us, tx, hl, hmc, hcm, ht, hcl, hrp⟩ := hrep
 injection hl with hl _
 injection hl with hl1 hl2 hl3
 subst hl1; subst hl2; subst hl3
 injection ht with ht _
 subst ht
 have hbw := h.lt
 have hsz : Shape.sz (indexS n) = 2 := sz_index
 unfold maxLen at hcm
 have HW := hid h
 have HE := hid hel
 have HCL := hid hcl
 have HRP := hid hrp
 have HSZ := hid hsz
 clear h hel hcl hrp hsz
 go_enter Tryz.func347, Tryz.ntmps347
 go_wp2_with fail
 refine (text_any _ bw o ⟨#[40]⟩ HW.out (by decide)).mono ?_
 rintro e w1 ⟨rfl, hr1, hf1⟩
 have I0 := hid (LInv.start (tx := tx) hr1 hf1)
 clear hr1 hf1
 go_wp2
 go_loopw [12] (fun iv wr => ∃ (k : Nat), k ≤ m ∧ iv = .int .i64 k ∧ Hid (LInv o tx bw w k wr)) (fun iv _ => m - (intOf iv).toNat)
 case atStart => exact ⟨0, by omega, rfl, I0⟩
 case round =>
  obtain ⟨k, hk, rfl, hI⟩ := hrel
  clear I0
  have hbwr : bw < wr.heap.size := by have := hI.out.2.1.size; omega
  by_cases hlt : k < m
  ·obtain ⟨b, off, hA, hD, hblt, hcells⟩ := HCL.out (by omega)
   subst hA
   have hrk := HRP.out k hlt
   obtain ⟨z0n, z1A, z1k, z1c, hus⟩ := ty_index hrk.ty
   have hsz := HSZ.out
   have e0 : wr.cell? ⟨b, off + k * 2, none⟩ = some (.int .i64 z0n) := by
    have h9 := (hI.out.2.1.cell (p := ⟨b, off + k * Shape.sz (indexS n) + 0, none⟩) hD).trans (hcells k hlt 0 (.int .i64 z0n) (by rw [hus]; rfl))
    rw [hsz] at h9
    simpa using h9
   have e1 : wr.cell? ⟨b, off + k * 2 + 1, none⟩ = some (.slice z1A z1k z1c) := by
    have h9 := (hI.out.2.1.cell (p := ⟨b, off + k * Shape.sz (indexS n) + 1, none⟩) hD).trans (hcells k hlt 1 (.slice z1A z1k z1c) (by rw [hus]; rfl))
    rw [hsz] at h9
    simpa using h9
   have c2 := hI.out.1.cell
   rw [hus] at hrk
   have HRK := hid (hrk.wfr hI.out.2)
   clear hus hrk hcells hsz
   cases hf : listed o tx k with
   | none =>
    rw [hf] at c2
    have HF := hid hf
    clear hf
    go_wp2
    go_end0
    exact hI.out.full (n := m) (by omega) HF.out ((Wfr.refl bw wr).allocs hbwr (.cells #[.int .i64 z0n, .slice z1A z1k z1c] 125)) (by have := (hI.out.1.alloc (.cells #[.int .i64 z0n, .slice z1A z1k z1c] 125)); rw [HF.out] at this; exact this)
   | some l =>
    rw [hf] at c2
    have HF := hid hf
    clear hf
    by_cases hk0 : k = 0
    ·subst hk0
     simp only [Nat.zero_mul, Nat.add_zero] at e0 e1
     have key := HE.out (wr.alloc (.cells #[.int .i64 z0n, .slice z1A z1k z1c] 125)) (listed o tx 0) [.int .i64 z0n, .slice z1A z1k z1c] (tx 0) (hI.out.2.trans ((Wfr.refl bw wr).allocs hbwr (.cells #[.int .i64 z0n, .slice z1A z1k z1c] 125))) (hI.out.1.alloc (.cells #[.int .i64 z0n, .slice z1A z1k z1c] 125)) (HRK.out.allocW _)
     rw [val_index] at key
     have KEY := hid key
     clear key
     go_wp2_with fail
     refine (show Calls Tryz.prog g (fi ++ #[.agg #[.int .i64 z0n, .slice z1A z1k z1c]] ++ ca) _ _ from KEY.out).mono ?_
     rintro e w2 ⟨rfl, hw2, hf2⟩
     have HI2 := hid (hI.out.first (((Wfr.refl bw wr).allocs hbwr (.cells #[.int .i64 z0n, .slice z1A z1k z1c] 125)).trans hf2) hw2)
     clear hw2 hf2
     go_wp2
     go_roundw
     case rel => exact ⟨1, by omega, by go_num, HI2⟩
     case measure => simp [intOf]; omega
    ·have hkp : decide (0 < (k : Int)) = true := by simp; omega
     go_wp2_with fail
     refine (text_any _ bw (listed o tx k) ⟨#[32]⟩ (hI.out.1.alloc (.cells #[.int .i64 z0n, .slice z1A z1k z1c] 125)) (by decide)).mono ?_
     rintro e w2 ⟨rfl, hw2, hf2⟩
     have HF2 := hid hf2
     have hbx := HF2.out.2 wr.heap.size _ 125 (by omega) (by decide) (Bk.new wr 125 #[.int .i64 z0n, .slice z1A z1k z1c])
     have b0 := hbx.cell 0
     have b1 := hbx.cell 1
     simp only [gq] at b0 b1
     clear hbx
     have key := HE.out w2 (put (listed o tx k) [32]) [.int .i64 z0n, .slice z1A z1k z1c] (tx k) (hI.out.2.trans (((Wfr.refl bw wr).allocs hbwr (.cells #[.int .i64 z0n, .slice z1A z1k z1c] 125)).trans hf2)) hw2 ((HRK.out.allocW _).wfr hf2)
     rw [val_index] at key
     have KEY := hid key
     clear key hw2 hf2
     go_wp2_with fail
     refine (show Calls Tryz.prog g (fi ++ #[.agg #[.int .i64 z0n, .slice z1A z1k z1c]] ++ ca) _ _ from KEY.out).mono ?_
     rintro e w3 ⟨rfl, hw3, hf3⟩
     have HI2 := hid (hI.out.next (by omega) ((((Wfr.refl bw wr).allocs hbwr (.cells #[.int .i64 z0n, .slice z1A z1k z1c] 125)).trans HF2.out).trans hf3) hw3)
     clear hw3 hf3
     go_wp2
     go_roundw
     case rel => exact ⟨k + 1, by omega, by go_num, HI2⟩
     case measure => simp [intOf]; omega
  ·obtain rfl : k = m := by omega
   go_wp2_with fail
   refine (text_any _ bw (listed o tx k) ⟨#[41]⟩ hI.out.1 (by decide)).mono ?_
   rintro e w2 ⟨rfl, hr2, hf2⟩
   go_wp2
   go_end0
   exact hI.out.last hf2 hr2
set_option maxHeartbeats 2000000 in
set_option maxRecDepth 100000 in
theorem ls_factor (n : Nat) (g : FuncId) (fi ca : Array Value) (w : World) (bw : Nat) (o : Option (List UInt8)) (A : Option Addr) (m c : Nat) (t : List UInt8) (h : Wst w bw o) (hrep : Rep w (· < bw) (.list (factorS n)) [.slice A m c] [t]) (hel : ElW g fi ca (factorS n) bw w) :
 Calls Tryz.prog 268 #[.pointer (some ⟨bw, 0, none⟩), .slice A m c, .func (.func g) fi ca] w (WRet bw w (put o t)) := by
 obtain ⟨he, hel⟩ := hel
 unfold Enters at he
 obtain ⟨A', m', c', us, tx, hl, hmc, hcm, ht, hcl, hrp⟩ := hrep
 injection hl with hl _
 injection hl with hl1 hl2 hl3
 subst hl1; subst hl2; subst hl3
 injection ht with ht _
 subst ht
 have hbw := h.lt
 have hsz : Shape.sz (factorS n) = 3 := sz_factor
 unfold maxLen at hcm
 have HW := hid h
 have HE := hid hel
 have HCL := hid hcl
 have HRP := hid hrp
 have HSZ := hid hsz
 clear h hel hcl hrp hsz
 go_enter Tryz.func268, Tryz.ntmps268
 go_wp2_with fail
 refine (text_any _ bw o ⟨#[40]⟩ HW.out (by decide)).mono ?_
 rintro e w1 ⟨rfl, hr1, hf1⟩
 have I0 := hid (LInv.start (tx := tx) hr1 hf1)
 clear hr1 hf1
 go_wp2
 go_loopw [12] (fun iv wr => ∃ (k : Nat), k ≤ m ∧ iv = .int .i64 k ∧ Hid (LInv o tx bw w k wr)) (fun iv _ => m - (intOf iv).toNat)
 case atStart => exact ⟨0, by omega, rfl, I0⟩
 case round =>
  obtain ⟨k, hk, rfl, hI⟩ := hrel
  clear I0
  have hbwr : bw < wr.heap.size := by have := hI.out.2.1.size; omega
  by_cases hlt : k < m
  ·obtain ⟨b, off, hA, hD, hblt, hcells⟩ := HCL.out (by omega)
   subst hA
   have hrk := HRP.out k hlt
   obtain ⟨z0n, z1_0n, z1_1A, z1_1k, z1_1c, hus⟩ := ty_factor hrk.ty
   have hsz := HSZ.out
   have e0 : wr.cell? ⟨b, off + k * 3, none⟩ = some (.int .i64 z0n) := by
    have h9 := (hI.out.2.1.cell (p := ⟨b, off + k * Shape.sz (factorS n) + 0, none⟩) hD).trans (hcells k hlt 0 (.int .i64 z0n) (by rw [hus]; rfl))
    rw [hsz] at h9
    simpa using h9
   have e1 : wr.cell? ⟨b, off + k * 3 + 1, none⟩ = some (.int .i64 z1_0n) := by
    have h9 := (hI.out.2.1.cell (p := ⟨b, off + k * Shape.sz (factorS n) + 1, none⟩) hD).trans (hcells k hlt 1 (.int .i64 z1_0n) (by rw [hus]; rfl))
    rw [hsz] at h9
    simpa using h9
   have e2 : wr.cell? ⟨b, off + k * 3 + 2, none⟩ = some (.slice z1_1A z1_1k z1_1c) := by
    have h9 := (hI.out.2.1.cell (p := ⟨b, off + k * Shape.sz (factorS n) + 2, none⟩) hD).trans (hcells k hlt 2 (.slice z1_1A z1_1k z1_1c) (by rw [hus]; rfl))
    rw [hsz] at h9
    simpa using h9
   have c2 := hI.out.1.cell
   rw [hus] at hrk
   have HRK := hid (hrk.wfr hI.out.2)
   clear hus hrk hcells hsz
   cases hf : listed o tx k with
   | none =>
    rw [hf] at c2
    have HF := hid hf
    clear hf
    go_wp2
    go_end0
    exact hI.out.full (n := m) (by omega) HF.out ((Wfr.refl bw wr).allocs hbwr (.cells #[.int .i64 z0n, .int .i64 z1_0n, .slice z1_1A z1_1k z1_1c] 127)) (by have := (hI.out.1.alloc (.cells #[.int .i64 z0n, .int .i64 z1_0n, .slice z1_1A z1_1k z1_1c] 127)); rw [HF.out] at this; exact this)
   | some l =>
    rw [hf] at c2
    have HF := hid hf
    clear hf
    by_cases hk0 : k = 0
    ·subst hk0
     simp only [Nat.zero_mul, Nat.add_zero] at e0 e1 e2
     have key := HE.out (wr.alloc (.cells #[.int .i64 z0n, .int .i64 z1_0n, .slice z1_1A z1_1k z1_1c] 127)) (listed o tx 0) [.int .i64 z0n, .int .i64 z1_0n, .slice z1_1A z1_1k z1_1c] (tx 0) (hI.out.2.trans ((Wfr.refl bw wr).allocs hbwr (.cells #[.int .i64 z0n, .int .i64 z1_0n, .slice z1_1A z1_1k z1_1c] 127))) (hI.out.1.alloc (.cells #[.int .i64 z0n, .int .i64 z1_0n, .slice z1_1A z1_1k z1_1c] 127)) (HRK.out.allocW _)
     rw [val_factor] at key
     have KEY := hid key
     clear key
     go_wp2_with fail
     refine (show Calls Tryz.prog g (fi ++ #[.agg #[.int .i64 z0n, .int .i64 z1_0n, .slice z1_1A z1_1k z1_1c]] ++ ca) _ _ from KEY.out).mono ?_
     rintro e w2 ⟨rfl, hw2, hf2⟩
     have HI2 := hid (hI.out.first (((Wfr.refl bw wr).allocs hbwr (.cells #[.int .i64 z0n, .int .i64 z1_0n, .slice z1_1A z1_1k z1_1c] 127)).trans hf2) hw2)
     clear hw2 hf2
     go_wp2
     go_roundw
     case rel => exact ⟨1, by omega, by go_num, HI2⟩
     case measure => simp [intOf]; omega
    ·have hkp : decide (0 < (k : Int)) = true := by simp; omega
     go_wp2_with fail
     refine (text_any _ bw (listed o tx k) ⟨#[32]⟩ (hI.out.1.alloc (.cells #[.int .i64 z0n, .int .i64 z1_0n, .slice z1_1A z1_1k z1_1c] 127)) (by decide)).mono ?_
     rintro e w2 ⟨rfl, hw2, hf2⟩
     have HF2 := hid hf2
     have hbx := HF2.out.2 wr.heap.size _ 127 (by omega) (by decide) (Bk.new wr 127 #[.int .i64 z0n, .int .i64 z1_0n, .slice z1_1A z1_1k z1_1c])
     have b0 := hbx.cell 0
     have b1 := hbx.cell 1
     have b2 := hbx.cell 2
     simp only [gq] at b0 b1 b2
     clear hbx
     have key := HE.out w2 (put (listed o tx k) [32]) [.int .i64 z0n, .int .i64 z1_0n, .slice z1_1A z1_1k z1_1c] (tx k) (hI.out.2.trans (((Wfr.refl bw wr).allocs hbwr (.cells #[.int .i64 z0n, .int .i64 z1_0n, .slice z1_1A z1_1k z1_1c] 127)).trans hf2)) hw2 ((HRK.out.allocW _).wfr hf2)
     rw [val_factor] at key
     have KEY := hid key
     clear key hw2 hf2
     go_wp2_with fail
     refine (show Calls Tryz.prog g (fi ++ #[.agg #[.int .i64 z0n, .int .i64 z1_0n, .slice z1_1A z1_1k z1_1c]] ++ ca) _ _ from KEY.out).mono ?_
     rintro e w3 ⟨rfl, hw3, hf3⟩
     have HI2 := hid (hI.out.next (by omega) ((((Wfr.refl bw wr).allocs hbwr (.cells #[.int .i64 z0n, .int .i64 z1_0n, .slice z1_1A z1_1k z1_1c] 127)).trans HF2.out).trans hf3) hw3)
     clear hw3 hf3
     go_wp2
     go_roundw
     case rel => exact ⟨k + 1, by omega, by go_num, HI2⟩
     case measure => simp [intOf]; omega
  ·obtain rfl : k = m := by omega
   go_wp2_with fail
   refine (text_any _ bw (listed o tx k) ⟨#[41]⟩ hI.out.1 (by decide)).mono ?_
   rintro e w2 ⟨rfl, hr2, hf2⟩
   go_wp2
   go_end0
   exact hI.out.last hf2 hr2
end Go.Proofs.YtpbdkkoanedimaaGreatDoor
