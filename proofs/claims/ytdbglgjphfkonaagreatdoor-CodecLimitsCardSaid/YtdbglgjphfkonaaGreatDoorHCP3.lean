/-
  The writer: lists (printed by gen_codec.py).
-/
import Derived.Test.YtdbglgjphfkonaaGreatDoorHCWc
namespace Go.Proofs.YtdbglgjphfkonaaGreatDoor
open Go.RowKit AC
set_option linter.unusedVariables false
set_option linter.unusedSimpArgs false

set_option maxHeartbeats 2000000 in
set_option maxRecDepth 100000 in
theorem ls_typ (n : Nat) (g : FuncId) (fi ca : Array Value) (w : World) (bw : Nat) (o : Option (List UInt8)) (A : Option Addr) (m c : Nat) (t : List UInt8) (h : Wst w bw o) (hrep : Rep w (· < bw) (.list (typS n)) [.slice A m c] [t]) (hel : ElW g fi ca (typS n) bw w) :
    Calls Tryz.prog 222 #[.pointer (some ⟨bw, 0, none⟩), .slice A m c, .func (.func g) fi ca] w (WRet bw w (put o t)) := by
  obtain ⟨he, hel⟩ := hel
  unfold Enters at he
  obtain ⟨A', m', c', us, tx, hl, hmc, hcm, ht, hcl, hrp⟩ := hrep
  injection hl with hl _
  injection hl with hl1 hl2 hl3
  subst hl1; subst hl2; subst hl3
  injection ht with ht _
  subst ht
  have hbw := h.lt
  have hsz : Shape.sz (typS n) = 3 := sz_typ
  unfold maxLen at hcm
  have HW := Lib.hid h
  have HE := Lib.hid hel
  have HCL := Lib.hid hcl
  have HRP := Lib.hid hrp
  have HSZ := Lib.hid hsz
  clear h hel hcl hrp hsz
  go_enter Tryz.func222, Tryz.ntmps222
  go_wp2_with fail
  refine (text_any _ bw o ⟨#[40]⟩ HW.out (by decide)).mono ?_
  rintro e w1 ⟨rfl, hr1, hf1⟩
  have I0 := Lib.hid (LInv.start (tx := tx) hr1 hf1)
  clear hr1 hf1
  go_wp2
  go_loopw [12] (fun iv wr => ∃ (k : Nat), k ≤ m ∧ iv = .int .i64 k ∧ Hid (LInv o tx bw w k wr)) (fun iv _ => m - (intOf iv).toNat)
  case atStart => exact ⟨0, by omega, rfl, I0⟩
  case round =>
    obtain ⟨k, hk, rfl, hI⟩ := hrel
    clear I0
    have hbwr : bw < wr.heap.size := by have := hI.out.2.1.size; omega
    by_cases hlt : k < m
    · obtain ⟨b, off, hA, hD, hblt, hcells⟩ := HCL.out (by omega)
      subst hA
      have hrk := HRP.out k hlt
      obtain ⟨z0n, z1n, z2A, z2k, z2c, hus⟩ := ty_typ hrk.ty
      have hsz := HSZ.out
      have e0 : wr.cell? ⟨b, off + k * 3, none⟩ = some (.int .i64 z0n) := by
        have h9 := (hI.out.2.1.cell (p := ⟨b, off + k * Shape.sz (typS n) + 0, none⟩) hD).trans (hcells k hlt 0 (.int .i64 z0n) (by rw [hus]; rfl))
        rw [hsz] at h9
        simpa using h9
      have e1 : wr.cell? ⟨b, off + k * 3 + 1, none⟩ = some (.int .i64 z1n) := by
        have h9 := (hI.out.2.1.cell (p := ⟨b, off + k * Shape.sz (typS n) + 1, none⟩) hD).trans (hcells k hlt 1 (.int .i64 z1n) (by rw [hus]; rfl))
        rw [hsz] at h9
        simpa using h9
      have e2 : wr.cell? ⟨b, off + k * 3 + 2, none⟩ = some (.slice z2A z2k z2c) := by
        have h9 := (hI.out.2.1.cell (p := ⟨b, off + k * Shape.sz (typS n) + 2, none⟩) hD).trans (hcells k hlt 2 (.slice z2A z2k z2c) (by rw [hus]; rfl))
        rw [hsz] at h9
        simpa using h9
      have c2 := hI.out.1.cell
      rw [hus] at hrk
      have HRK := Lib.hid (hrk.wfr hI.out.2)
      clear hus hrk hcells hsz
      cases hf : listed o tx k with
      | none =>
        rw [hf] at c2
        have HF := Lib.hid hf
        clear hf
        go_wp2
        go_end0
        exact hI.out.full (n := m) (by omega) HF.out ((Wfr.refl bw wr).allocs hbwr (.cells #[.int .i64 z0n, .int .i64 z1n, .slice z2A z2k z2c] 102)) (by have := (hI.out.1.alloc (.cells #[.int .i64 z0n, .int .i64 z1n, .slice z2A z2k z2c] 102)); rw [HF.out] at this; exact this)
      | some l =>
        rw [hf] at c2
        have HF := Lib.hid hf
        clear hf
        by_cases hk0 : k = 0
        · subst hk0
          simp only [Nat.zero_mul, Nat.add_zero] at e0 e1 e2
          have key := HE.out (wr.alloc (.cells #[.int .i64 z0n, .int .i64 z1n, .slice z2A z2k z2c] 102)) (listed o tx 0) [.int .i64 z0n, .int .i64 z1n, .slice z2A z2k z2c] (tx 0) (hI.out.2.trans ((Wfr.refl bw wr).allocs hbwr (.cells #[.int .i64 z0n, .int .i64 z1n, .slice z2A z2k z2c] 102))) (hI.out.1.alloc (.cells #[.int .i64 z0n, .int .i64 z1n, .slice z2A z2k z2c] 102)) (HRK.out.allocW _)
          rw [val_typ] at key
          have KEY := Lib.hid key
          clear key
          go_wp2_with fail
          refine (show Calls Tryz.prog g (fi ++ #[.agg #[.int .i64 z0n, .int .i64 z1n, .slice z2A z2k z2c]] ++ ca) _ _ from KEY.out).mono ?_
          rintro e w2 ⟨rfl, hw2, hf2⟩
          have HI2 := Lib.hid (hI.out.first (((Wfr.refl bw wr).allocs hbwr (.cells #[.int .i64 z0n, .int .i64 z1n, .slice z2A z2k z2c] 102)).trans hf2) hw2)
          clear hw2 hf2
          go_wp2
          go_roundw
          case rel => exact ⟨1, by omega, by go_num, HI2⟩
          case measure => simp [intOf]; omega
        · have hkp : decide (0 < (k : Int)) = true := by simp; omega
          go_wp2_with fail
          refine (text_any _ bw (listed o tx k) ⟨#[32]⟩ (hI.out.1.alloc (.cells #[.int .i64 z0n, .int .i64 z1n, .slice z2A z2k z2c] 102)) (by decide)).mono ?_
          rintro e w2 ⟨rfl, hw2, hf2⟩
          have HF2 := Lib.hid hf2
          have hbx := HF2.out.2 wr.heap.size _ 102 (by omega) (by decide) (Bk.new wr 102 #[.int .i64 z0n, .int .i64 z1n, .slice z2A z2k z2c])
          have b0 := hbx.cell 0
          have b1 := hbx.cell 1
          have b2 := hbx.cell 2
          simp only [List.getElem?_toArray, List.getElem?_cons_zero, List.getElem?_cons_succ] at b0 b1 b2
          clear hbx
          have key := HE.out w2 (put (listed o tx k) [32]) [.int .i64 z0n, .int .i64 z1n, .slice z2A z2k z2c] (tx k) (hI.out.2.trans (((Wfr.refl bw wr).allocs hbwr (.cells #[.int .i64 z0n, .int .i64 z1n, .slice z2A z2k z2c] 102)).trans hf2)) hw2 ((HRK.out.allocW _).wfr hf2)
          rw [val_typ] at key
          have KEY := Lib.hid key
          clear key hw2 hf2
          go_wp2_with fail
          refine (show Calls Tryz.prog g (fi ++ #[.agg #[.int .i64 z0n, .int .i64 z1n, .slice z2A z2k z2c]] ++ ca) _ _ from KEY.out).mono ?_
          rintro e w3 ⟨rfl, hw3, hf3⟩
          have HI2 := Lib.hid (hI.out.next (by omega) ((((Wfr.refl bw wr).allocs hbwr (.cells #[.int .i64 z0n, .int .i64 z1n, .slice z2A z2k z2c] 102)).trans HF2.out).trans hf3) hw3)
          clear hw3 hf3
          go_wp2
          go_roundw
          case rel => exact ⟨k + 1, by omega, by go_num, HI2⟩
          case measure => simp [intOf]; omega
    · obtain rfl : k = m := by omega
      go_wp2_with fail
      refine (text_any _ bw (listed o tx k) ⟨#[41]⟩ hI.out.1 (by decide)).mono ?_
      rintro e w2 ⟨rfl, hr2, hf2⟩
      go_wp2
      go_end0
      exact hI.out.last hf2 hr2

set_option maxHeartbeats 2000000 in
set_option maxRecDepth 100000 in
theorem ls_store (n : Nat) (g : FuncId) (fi ca : Array Value) (w : World) (bw : Nat) (o : Option (List UInt8)) (A : Option Addr) (m c : Nat) (t : List UInt8) (h : Wst w bw o) (hrep : Rep w (· < bw) (.list (storeS n)) [.slice A m c] [t]) (hel : ElW g fi ca (storeS n) bw w) :
    Calls Tryz.prog 100 #[.pointer (some ⟨bw, 0, none⟩), .slice A m c, .func (.func g) fi ca] w (WRet bw w (put o t)) := by
  obtain ⟨he, hel⟩ := hel
  unfold Enters at he
  obtain ⟨A', m', c', us, tx, hl, hmc, hcm, ht, hcl, hrp⟩ := hrep
  injection hl with hl _
  injection hl with hl1 hl2 hl3
  subst hl1; subst hl2; subst hl3
  injection ht with ht _
  subst ht
  have hbw := h.lt
  have hsz : Shape.sz (storeS n) = 4 := sz_store
  unfold maxLen at hcm
  have HW := Lib.hid h
  have HE := Lib.hid hel
  have HCL := Lib.hid hcl
  have HRP := Lib.hid hrp
  have HSZ := Lib.hid hsz
  clear h hel hcl hrp hsz
  go_enter Tryz.func100, Tryz.ntmps100
  go_wp2_with fail
  refine (text_any _ bw o ⟨#[40]⟩ HW.out (by decide)).mono ?_
  rintro e w1 ⟨rfl, hr1, hf1⟩
  have I0 := Lib.hid (LInv.start (tx := tx) hr1 hf1)
  clear hr1 hf1
  go_wp2
  go_loopw [12] (fun iv wr => ∃ (k : Nat), k ≤ m ∧ iv = .int .i64 k ∧ Hid (LInv o tx bw w k wr)) (fun iv _ => m - (intOf iv).toNat)
  case atStart => exact ⟨0, by omega, rfl, I0⟩
  case round =>
    obtain ⟨k, hk, rfl, hI⟩ := hrel
    clear I0
    have hbwr : bw < wr.heap.size := by have := hI.out.2.1.size; omega
    by_cases hlt : k < m
    · obtain ⟨b, off, hA, hD, hblt, hcells⟩ := HCL.out (by omega)
      subst hA
      have hrk := HRP.out k hlt
      obtain ⟨z0_0n, z0_1n, z0_2A, z0_2k, z0_2c, z1A, z1k, z1c, hus⟩ := ty_store hrk.ty
      have hsz := HSZ.out
      have e0 : wr.cell? ⟨b, off + k * 4, none⟩ = some (.int .i64 z0_0n) := by
        have h9 := (hI.out.2.1.cell (p := ⟨b, off + k * Shape.sz (storeS n) + 0, none⟩) hD).trans (hcells k hlt 0 (.int .i64 z0_0n) (by rw [hus]; rfl))
        rw [hsz] at h9
        simpa using h9
      have e1 : wr.cell? ⟨b, off + k * 4 + 1, none⟩ = some (.int .i64 z0_1n) := by
        have h9 := (hI.out.2.1.cell (p := ⟨b, off + k * Shape.sz (storeS n) + 1, none⟩) hD).trans (hcells k hlt 1 (.int .i64 z0_1n) (by rw [hus]; rfl))
        rw [hsz] at h9
        simpa using h9
      have e2 : wr.cell? ⟨b, off + k * 4 + 2, none⟩ = some (.slice z0_2A z0_2k z0_2c) := by
        have h9 := (hI.out.2.1.cell (p := ⟨b, off + k * Shape.sz (storeS n) + 2, none⟩) hD).trans (hcells k hlt 2 (.slice z0_2A z0_2k z0_2c) (by rw [hus]; rfl))
        rw [hsz] at h9
        simpa using h9
      have e3 : wr.cell? ⟨b, off + k * 4 + 3, none⟩ = some (.slice z1A z1k z1c) := by
        have h9 := (hI.out.2.1.cell (p := ⟨b, off + k * Shape.sz (storeS n) + 3, none⟩) hD).trans (hcells k hlt 3 (.slice z1A z1k z1c) (by rw [hus]; rfl))
        rw [hsz] at h9
        simpa using h9
      have c2 := hI.out.1.cell
      rw [hus] at hrk
      have HRK := Lib.hid (hrk.wfr hI.out.2)
      clear hus hrk hcells hsz
      cases hf : listed o tx k with
      | none =>
        rw [hf] at c2
        have HF := Lib.hid hf
        clear hf
        go_wp2
        go_end0
        exact hI.out.full (n := m) (by omega) HF.out ((Wfr.refl bw wr).allocs hbwr (.cells #[.int .i64 z0_0n, .int .i64 z0_1n, .slice z0_2A z0_2k z0_2c, .slice z1A z1k z1c] 104)) (by have := (hI.out.1.alloc (.cells #[.int .i64 z0_0n, .int .i64 z0_1n, .slice z0_2A z0_2k z0_2c, .slice z1A z1k z1c] 104)); rw [HF.out] at this; exact this)
      | some l =>
        rw [hf] at c2
        have HF := Lib.hid hf
        clear hf
        by_cases hk0 : k = 0
        · subst hk0
          simp only [Nat.zero_mul, Nat.add_zero] at e0 e1 e2 e3
          have key := HE.out (wr.alloc (.cells #[.int .i64 z0_0n, .int .i64 z0_1n, .slice z0_2A z0_2k z0_2c, .slice z1A z1k z1c] 104)) (listed o tx 0) [.int .i64 z0_0n, .int .i64 z0_1n, .slice z0_2A z0_2k z0_2c, .slice z1A z1k z1c] (tx 0) (hI.out.2.trans ((Wfr.refl bw wr).allocs hbwr (.cells #[.int .i64 z0_0n, .int .i64 z0_1n, .slice z0_2A z0_2k z0_2c, .slice z1A z1k z1c] 104))) (hI.out.1.alloc (.cells #[.int .i64 z0_0n, .int .i64 z0_1n, .slice z0_2A z0_2k z0_2c, .slice z1A z1k z1c] 104)) (HRK.out.allocW _)
          rw [val_store] at key
          have KEY := Lib.hid key
          clear key
          go_wp2_with fail
          refine (show Calls Tryz.prog g (fi ++ #[.agg #[.int .i64 z0_0n, .int .i64 z0_1n, .slice z0_2A z0_2k z0_2c, .slice z1A z1k z1c]] ++ ca) _ _ from KEY.out).mono ?_
          rintro e w2 ⟨rfl, hw2, hf2⟩
          have HI2 := Lib.hid (hI.out.first (((Wfr.refl bw wr).allocs hbwr (.cells #[.int .i64 z0_0n, .int .i64 z0_1n, .slice z0_2A z0_2k z0_2c, .slice z1A z1k z1c] 104)).trans hf2) hw2)
          clear hw2 hf2
          go_wp2
          go_roundw
          case rel => exact ⟨1, by omega, by go_num, HI2⟩
          case measure => simp [intOf]; omega
        · have hkp : decide (0 < (k : Int)) = true := by simp; omega
          go_wp2_with fail
          refine (text_any _ bw (listed o tx k) ⟨#[32]⟩ (hI.out.1.alloc (.cells #[.int .i64 z0_0n, .int .i64 z0_1n, .slice z0_2A z0_2k z0_2c, .slice z1A z1k z1c] 104)) (by decide)).mono ?_
          rintro e w2 ⟨rfl, hw2, hf2⟩
          have HF2 := Lib.hid hf2
          have hbx := HF2.out.2 wr.heap.size _ 104 (by omega) (by decide) (Bk.new wr 104 #[.int .i64 z0_0n, .int .i64 z0_1n, .slice z0_2A z0_2k z0_2c, .slice z1A z1k z1c])
          have b0 := hbx.cell 0
          have b1 := hbx.cell 1
          have b2 := hbx.cell 2
          have b3 := hbx.cell 3
          simp only [List.getElem?_toArray, List.getElem?_cons_zero, List.getElem?_cons_succ] at b0 b1 b2 b3
          clear hbx
          have key := HE.out w2 (put (listed o tx k) [32]) [.int .i64 z0_0n, .int .i64 z0_1n, .slice z0_2A z0_2k z0_2c, .slice z1A z1k z1c] (tx k) (hI.out.2.trans (((Wfr.refl bw wr).allocs hbwr (.cells #[.int .i64 z0_0n, .int .i64 z0_1n, .slice z0_2A z0_2k z0_2c, .slice z1A z1k z1c] 104)).trans hf2)) hw2 ((HRK.out.allocW _).wfr hf2)
          rw [val_store] at key
          have KEY := Lib.hid key
          clear key hw2 hf2
          go_wp2_with fail
          refine (show Calls Tryz.prog g (fi ++ #[.agg #[.int .i64 z0_0n, .int .i64 z0_1n, .slice z0_2A z0_2k z0_2c, .slice z1A z1k z1c]] ++ ca) _ _ from KEY.out).mono ?_
          rintro e w3 ⟨rfl, hw3, hf3⟩
          have HI2 := Lib.hid (hI.out.next (by omega) ((((Wfr.refl bw wr).allocs hbwr (.cells #[.int .i64 z0_0n, .int .i64 z0_1n, .slice z0_2A z0_2k z0_2c, .slice z1A z1k z1c] 104)).trans HF2.out).trans hf3) hw3)
          clear hw3 hf3
          go_wp2
          go_roundw
          case rel => exact ⟨k + 1, by omega, by go_num, HI2⟩
          case measure => simp [intOf]; omega
    · obtain rfl : k = m := by omega
      go_wp2_with fail
      refine (text_any _ bw (listed o tx k) ⟨#[41]⟩ hI.out.1 (by decide)).mono ?_
      rintro e w2 ⟨rfl, hr2, hf2⟩
      go_wp2
      go_end0
      exact hI.out.last hf2 hr2

set_option maxHeartbeats 2000000 in
set_option maxRecDepth 100000 in
theorem ls_index (n : Nat) (g : FuncId) (fi ca : Array Value) (w : World) (bw : Nat) (o : Option (List UInt8)) (A : Option Addr) (m c : Nat) (t : List UInt8) (h : Wst w bw o) (hrep : Rep w (· < bw) (.list (indexS n)) [.slice A m c] [t]) (hel : ElW g fi ca (indexS n) bw w) :
    Calls Tryz.prog 286 #[.pointer (some ⟨bw, 0, none⟩), .slice A m c, .func (.func g) fi ca] w (WRet bw w (put o t)) := by
  obtain ⟨he, hel⟩ := hel
  unfold Enters at he
  obtain ⟨A', m', c', us, tx, hl, hmc, hcm, ht, hcl, hrp⟩ := hrep
  injection hl with hl _
  injection hl with hl1 hl2 hl3
  subst hl1; subst hl2; subst hl3
  injection ht with ht _
  subst ht
  have hbw := h.lt
  have hsz : Shape.sz (indexS n) = 2 := sz_index
  unfold maxLen at hcm
  have HW := Lib.hid h
  have HE := Lib.hid hel
  have HCL := Lib.hid hcl
  have HRP := Lib.hid hrp
  have HSZ := Lib.hid hsz
  clear h hel hcl hrp hsz
  go_enter Tryz.func286, Tryz.ntmps286
  go_wp2_with fail
  refine (text_any _ bw o ⟨#[40]⟩ HW.out (by decide)).mono ?_
  rintro e w1 ⟨rfl, hr1, hf1⟩
  have I0 := Lib.hid (LInv.start (tx := tx) hr1 hf1)
  clear hr1 hf1
  go_wp2
  go_loopw [12] (fun iv wr => ∃ (k : Nat), k ≤ m ∧ iv = .int .i64 k ∧ Hid (LInv o tx bw w k wr)) (fun iv _ => m - (intOf iv).toNat)
  case atStart => exact ⟨0, by omega, rfl, I0⟩
  case round =>
    obtain ⟨k, hk, rfl, hI⟩ := hrel
    clear I0
    have hbwr : bw < wr.heap.size := by have := hI.out.2.1.size; omega
    by_cases hlt : k < m
    · obtain ⟨b, off, hA, hD, hblt, hcells⟩ := HCL.out (by omega)
      subst hA
      have hrk := HRP.out k hlt
      obtain ⟨z0n, z1A, z1k, z1c, hus⟩ := ty_index hrk.ty
      have hsz := HSZ.out
      have e0 : wr.cell? ⟨b, off + k * 2, none⟩ = some (.int .i64 z0n) := by
        have h9 := (hI.out.2.1.cell (p := ⟨b, off + k * Shape.sz (indexS n) + 0, none⟩) hD).trans (hcells k hlt 0 (.int .i64 z0n) (by rw [hus]; rfl))
        rw [hsz] at h9
        simpa using h9
      have e1 : wr.cell? ⟨b, off + k * 2 + 1, none⟩ = some (.slice z1A z1k z1c) := by
        have h9 := (hI.out.2.1.cell (p := ⟨b, off + k * Shape.sz (indexS n) + 1, none⟩) hD).trans (hcells k hlt 1 (.slice z1A z1k z1c) (by rw [hus]; rfl))
        rw [hsz] at h9
        simpa using h9
      have c2 := hI.out.1.cell
      rw [hus] at hrk
      have HRK := Lib.hid (hrk.wfr hI.out.2)
      clear hus hrk hcells hsz
      cases hf : listed o tx k with
      | none =>
        rw [hf] at c2
        have HF := Lib.hid hf
        clear hf
        go_wp2
        go_end0
        exact hI.out.full (n := m) (by omega) HF.out ((Wfr.refl bw wr).allocs hbwr (.cells #[.int .i64 z0n, .slice z1A z1k z1c] 209)) (by have := (hI.out.1.alloc (.cells #[.int .i64 z0n, .slice z1A z1k z1c] 209)); rw [HF.out] at this; exact this)
      | some l =>
        rw [hf] at c2
        have HF := Lib.hid hf
        clear hf
        by_cases hk0 : k = 0
        · subst hk0
          simp only [Nat.zero_mul, Nat.add_zero] at e0 e1
          have key := HE.out (wr.alloc (.cells #[.int .i64 z0n, .slice z1A z1k z1c] 209)) (listed o tx 0) [.int .i64 z0n, .slice z1A z1k z1c] (tx 0) (hI.out.2.trans ((Wfr.refl bw wr).allocs hbwr (.cells #[.int .i64 z0n, .slice z1A z1k z1c] 209))) (hI.out.1.alloc (.cells #[.int .i64 z0n, .slice z1A z1k z1c] 209)) (HRK.out.allocW _)
          rw [val_index] at key
          have KEY := Lib.hid key
          clear key
          go_wp2_with fail
          refine (show Calls Tryz.prog g (fi ++ #[.agg #[.int .i64 z0n, .slice z1A z1k z1c]] ++ ca) _ _ from KEY.out).mono ?_
          rintro e w2 ⟨rfl, hw2, hf2⟩
          have HI2 := Lib.hid (hI.out.first (((Wfr.refl bw wr).allocs hbwr (.cells #[.int .i64 z0n, .slice z1A z1k z1c] 209)).trans hf2) hw2)
          clear hw2 hf2
          go_wp2
          go_roundw
          case rel => exact ⟨1, by omega, by go_num, HI2⟩
          case measure => simp [intOf]; omega
        · have hkp : decide (0 < (k : Int)) = true := by simp; omega
          go_wp2_with fail
          refine (text_any _ bw (listed o tx k) ⟨#[32]⟩ (hI.out.1.alloc (.cells #[.int .i64 z0n, .slice z1A z1k z1c] 209)) (by decide)).mono ?_
          rintro e w2 ⟨rfl, hw2, hf2⟩
          have HF2 := Lib.hid hf2
          have hbx := HF2.out.2 wr.heap.size _ 209 (by omega) (by decide) (Bk.new wr 209 #[.int .i64 z0n, .slice z1A z1k z1c])
          have b0 := hbx.cell 0
          have b1 := hbx.cell 1
          simp only [List.getElem?_toArray, List.getElem?_cons_zero, List.getElem?_cons_succ] at b0 b1
          clear hbx
          have key := HE.out w2 (put (listed o tx k) [32]) [.int .i64 z0n, .slice z1A z1k z1c] (tx k) (hI.out.2.trans (((Wfr.refl bw wr).allocs hbwr (.cells #[.int .i64 z0n, .slice z1A z1k z1c] 209)).trans hf2)) hw2 ((HRK.out.allocW _).wfr hf2)
          rw [val_index] at key
          have KEY := Lib.hid key
          clear key hw2 hf2
          go_wp2_with fail
          refine (show Calls Tryz.prog g (fi ++ #[.agg #[.int .i64 z0n, .slice z1A z1k z1c]] ++ ca) _ _ from KEY.out).mono ?_
          rintro e w3 ⟨rfl, hw3, hf3⟩
          have HI2 := Lib.hid (hI.out.next (by omega) ((((Wfr.refl bw wr).allocs hbwr (.cells #[.int .i64 z0n, .slice z1A z1k z1c] 209)).trans HF2.out).trans hf3) hw3)
          clear hw3 hf3
          go_wp2
          go_roundw
          case rel => exact ⟨k + 1, by omega, by go_num, HI2⟩
          case measure => simp [intOf]; omega
    · obtain rfl : k = m := by omega
      go_wp2_with fail
      refine (text_any _ bw (listed o tx k) ⟨#[41]⟩ hI.out.1 (by decide)).mono ?_
      rintro e w2 ⟨rfl, hr2, hf2⟩
      go_wp2
      go_end0
      exact hI.out.last hf2 hr2

set_option maxHeartbeats 2000000 in
set_option maxRecDepth 100000 in
theorem ls_factor (n : Nat) (g : FuncId) (fi ca : Array Value) (w : World) (bw : Nat) (o : Option (List UInt8)) (A : Option Addr) (m c : Nat) (t : List UInt8) (h : Wst w bw o) (hrep : Rep w (· < bw) (.list (factorS n)) [.slice A m c] [t]) (hel : ElW g fi ca (factorS n) bw w) :
    Calls Tryz.prog 225 #[.pointer (some ⟨bw, 0, none⟩), .slice A m c, .func (.func g) fi ca] w (WRet bw w (put o t)) := by
  obtain ⟨he, hel⟩ := hel
  unfold Enters at he
  obtain ⟨A', m', c', us, tx, hl, hmc, hcm, ht, hcl, hrp⟩ := hrep
  injection hl with hl _
  injection hl with hl1 hl2 hl3
  subst hl1; subst hl2; subst hl3
  injection ht with ht _
  subst ht
  have hbw := h.lt
  have hsz : Shape.sz (factorS n) = 3 := sz_factor
  unfold maxLen at hcm
  have HW := Lib.hid h
  have HE := Lib.hid hel
  have HCL := Lib.hid hcl
  have HRP := Lib.hid hrp
  have HSZ := Lib.hid hsz
  clear h hel hcl hrp hsz
  go_enter Tryz.func225, Tryz.ntmps225
  go_wp2_with fail
  refine (text_any _ bw o ⟨#[40]⟩ HW.out (by decide)).mono ?_
  rintro e w1 ⟨rfl, hr1, hf1⟩
  have I0 := Lib.hid (LInv.start (tx := tx) hr1 hf1)
  clear hr1 hf1
  go_wp2
  go_loopw [12] (fun iv wr => ∃ (k : Nat), k ≤ m ∧ iv = .int .i64 k ∧ Hid (LInv o tx bw w k wr)) (fun iv _ => m - (intOf iv).toNat)
  case atStart => exact ⟨0, by omega, rfl, I0⟩
  case round =>
    obtain ⟨k, hk, rfl, hI⟩ := hrel
    clear I0
    have hbwr : bw < wr.heap.size := by have := hI.out.2.1.size; omega
    by_cases hlt : k < m
    · obtain ⟨b, off, hA, hD, hblt, hcells⟩ := HCL.out (by omega)
      subst hA
      have hrk := HRP.out k hlt
      obtain ⟨z0n, z1_0n, z1_1A, z1_1k, z1_1c, hus⟩ := ty_factor hrk.ty
      have hsz := HSZ.out
      have e0 : wr.cell? ⟨b, off + k * 3, none⟩ = some (.int .i64 z0n) := by
        have h9 := (hI.out.2.1.cell (p := ⟨b, off + k * Shape.sz (factorS n) + 0, none⟩) hD).trans (hcells k hlt 0 (.int .i64 z0n) (by rw [hus]; rfl))
        rw [hsz] at h9
        simpa using h9
      have e1 : wr.cell? ⟨b, off + k * 3 + 1, none⟩ = some (.int .i64 z1_0n) := by
        have h9 := (hI.out.2.1.cell (p := ⟨b, off + k * Shape.sz (factorS n) + 1, none⟩) hD).trans (hcells k hlt 1 (.int .i64 z1_0n) (by rw [hus]; rfl))
        rw [hsz] at h9
        simpa using h9
      have e2 : wr.cell? ⟨b, off + k * 3 + 2, none⟩ = some (.slice z1_1A z1_1k z1_1c) := by
        have h9 := (hI.out.2.1.cell (p := ⟨b, off + k * Shape.sz (factorS n) + 2, none⟩) hD).trans (hcells k hlt 2 (.slice z1_1A z1_1k z1_1c) (by rw [hus]; rfl))
        rw [hsz] at h9
        simpa using h9
      have c2 := hI.out.1.cell
      rw [hus] at hrk
      have HRK := Lib.hid (hrk.wfr hI.out.2)
      clear hus hrk hcells hsz
      cases hf : listed o tx k with
      | none =>
        rw [hf] at c2
        have HF := Lib.hid hf
        clear hf
        go_wp2
        go_end0
        exact hI.out.full (n := m) (by omega) HF.out ((Wfr.refl bw wr).allocs hbwr (.cells #[.int .i64 z0n, .int .i64 z1_0n, .slice z1_1A z1_1k z1_1c] 211)) (by have := (hI.out.1.alloc (.cells #[.int .i64 z0n, .int .i64 z1_0n, .slice z1_1A z1_1k z1_1c] 211)); rw [HF.out] at this; exact this)
      | some l =>
        rw [hf] at c2
        have HF := Lib.hid hf
        clear hf
        by_cases hk0 : k = 0
        · subst hk0
          simp only [Nat.zero_mul, Nat.add_zero] at e0 e1 e2
          have key := HE.out (wr.alloc (.cells #[.int .i64 z0n, .int .i64 z1_0n, .slice z1_1A z1_1k z1_1c] 211)) (listed o tx 0) [.int .i64 z0n, .int .i64 z1_0n, .slice z1_1A z1_1k z1_1c] (tx 0) (hI.out.2.trans ((Wfr.refl bw wr).allocs hbwr (.cells #[.int .i64 z0n, .int .i64 z1_0n, .slice z1_1A z1_1k z1_1c] 211))) (hI.out.1.alloc (.cells #[.int .i64 z0n, .int .i64 z1_0n, .slice z1_1A z1_1k z1_1c] 211)) (HRK.out.allocW _)
          rw [val_factor] at key
          have KEY := Lib.hid key
          clear key
          go_wp2_with fail
          refine (show Calls Tryz.prog g (fi ++ #[.agg #[.int .i64 z0n, .int .i64 z1_0n, .slice z1_1A z1_1k z1_1c]] ++ ca) _ _ from KEY.out).mono ?_
          rintro e w2 ⟨rfl, hw2, hf2⟩
          have HI2 := Lib.hid (hI.out.first (((Wfr.refl bw wr).allocs hbwr (.cells #[.int .i64 z0n, .int .i64 z1_0n, .slice z1_1A z1_1k z1_1c] 211)).trans hf2) hw2)
          clear hw2 hf2
          go_wp2
          go_roundw
          case rel => exact ⟨1, by omega, by go_num, HI2⟩
          case measure => simp [intOf]; omega
        · have hkp : decide (0 < (k : Int)) = true := by simp; omega
          go_wp2_with fail
          refine (text_any _ bw (listed o tx k) ⟨#[32]⟩ (hI.out.1.alloc (.cells #[.int .i64 z0n, .int .i64 z1_0n, .slice z1_1A z1_1k z1_1c] 211)) (by decide)).mono ?_
          rintro e w2 ⟨rfl, hw2, hf2⟩
          have HF2 := Lib.hid hf2
          have hbx := HF2.out.2 wr.heap.size _ 211 (by omega) (by decide) (Bk.new wr 211 #[.int .i64 z0n, .int .i64 z1_0n, .slice z1_1A z1_1k z1_1c])
          have b0 := hbx.cell 0
          have b1 := hbx.cell 1
          have b2 := hbx.cell 2
          simp only [List.getElem?_toArray, List.getElem?_cons_zero, List.getElem?_cons_succ] at b0 b1 b2
          clear hbx
          have key := HE.out w2 (put (listed o tx k) [32]) [.int .i64 z0n, .int .i64 z1_0n, .slice z1_1A z1_1k z1_1c] (tx k) (hI.out.2.trans (((Wfr.refl bw wr).allocs hbwr (.cells #[.int .i64 z0n, .int .i64 z1_0n, .slice z1_1A z1_1k z1_1c] 211)).trans hf2)) hw2 ((HRK.out.allocW _).wfr hf2)
          rw [val_factor] at key
          have KEY := Lib.hid key
          clear key hw2 hf2
          go_wp2_with fail
          refine (show Calls Tryz.prog g (fi ++ #[.agg #[.int .i64 z0n, .int .i64 z1_0n, .slice z1_1A z1_1k z1_1c]] ++ ca) _ _ from KEY.out).mono ?_
          rintro e w3 ⟨rfl, hw3, hf3⟩
          have HI2 := Lib.hid (hI.out.next (by omega) ((((Wfr.refl bw wr).allocs hbwr (.cells #[.int .i64 z0n, .int .i64 z1_0n, .slice z1_1A z1_1k z1_1c] 211)).trans HF2.out).trans hf3) hw3)
          clear hw3 hf3
          go_wp2
          go_roundw
          case rel => exact ⟨k + 1, by omega, by go_num, HI2⟩
          case measure => simp [intOf]; omega
    · obtain rfl : k = m := by omega
      go_wp2_with fail
      refine (text_any _ bw (listed o tx k) ⟨#[41]⟩ hI.out.1 (by decide)).mono ?_
      rintro e w2 ⟨rfl, hr2, hf2⟩
      go_wp2
      go_end0
      exact hI.out.last hf2 hr2

end Go.Proofs.YtdbglgjphfkonaaGreatDoor

