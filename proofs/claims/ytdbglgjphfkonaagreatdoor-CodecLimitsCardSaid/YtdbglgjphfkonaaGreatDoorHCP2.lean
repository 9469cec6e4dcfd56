/-
  The writer: lists (printed by gen_codec.py).
-/
import Derived.Test.YtdbglgjphfkonaaGreatDoorHCWc
namespace Go.Proofs.YtdbglgjphfkonaaGreatDoor
open Go.RowKit AC
set_option linter.unusedVariables false
set_option linter.unusedSimpArgs false

set_option maxHeartbeats 2000000 in
set_option maxRecDepth 100000 in
theorem ls_l_axiomUse (n : Nat) (g : FuncId) (fi ca : Array Value) (w : World) (bw : Nat) (o : Option (List UInt8)) (A : Option Addr) (m c : Nat) (t : List UInt8) (h : Wst w bw o) (hrep : Rep w (· < bw) (.list (.list (axuS n))) [.slice A m c] [t]) (hel : ElW g fi ca (.list (axuS n)) bw w) :
    Calls Tryz.prog 121 #[.pointer (some ⟨bw, 0, none⟩), .slice A m c, .func (.func g) fi ca] w (WRet bw w (put o t)) := by
  obtain ⟨he, hel⟩ := hel
  unfold Enters at he
  obtain ⟨A', m', c', us, tx, hl, hmc, hcm, ht, hcl, hrp⟩ := hrep
  injection hl with hl _
  injection hl with hl1 hl2 hl3
  subst hl1; subst hl2; subst hl3
  injection ht with ht _
  subst ht
  have hbw := h.lt
  have hsz : Shape.sz (.list (axuS n)) = 1 := rfl
  unfold maxLen at hcm
  have HW := Lib.hid h
  have HE := Lib.hid hel
  have HCL := Lib.hid hcl
  have HRP := Lib.hid hrp
  have HSZ := Lib.hid hsz
  clear h hel hcl hrp hsz
  go_enter Tryz.func121, Tryz.ntmps121
  go_wp2_with fail
  refine (text_any _ bw o ⟨#[40]⟩ HW.out (by decide)).mono ?_
  rintro e w1 ⟨rfl, hr1, hf1⟩
  have I0 := Lib.hid (LInv.start (tx := tx) hr1 hf1)
  clear hr1 hf1
  go_wp2
  go_loopw [12] (fun iv wr => ∃ (k : Nat), k ≤ m ∧ iv = .int .i64 k ∧ Hid (LInv o tx bw w k wr)) (fun iv _ => m - (intOf iv).toNat)
  case atStart => exact ⟨0, by omega, rfl, I0⟩
  case round =>
    obtain ⟨k, hk, rfl, hI⟩ := hrel
    clear I0
    have hbwr : bw < wr.heap.size := by have := hI.out.2.1.size; omega
    by_cases hlt : k < m
    · obtain ⟨b, off, hA, hD, hblt, hcells⟩ := HCL.out (by omega)
      subst hA
      have hrk := HRP.out k hlt
      obtain ⟨zA, zk, zc, hus⟩ := ty_list hrk.ty
      have hsz := HSZ.out
      have e0 : wr.cell? ⟨b, off + k, none⟩ = some (.slice zA zk zc) := by
        have h9 := (hI.out.2.1.cell (p := ⟨b, off + k * Shape.sz (.list (axuS n)) + 0, none⟩) hD).trans (hcells k hlt 0 (.slice zA zk zc) (by rw [hus]; rfl))
        rw [hsz] at h9
        simpa using h9
      have c2 := hI.out.1.cell
      rw [hus] at hrk
      have HRK := Lib.hid (hrk.wfr hI.out.2)
      clear hus hrk hcells hsz
      cases hf : listed o tx k with
      | none =>
        rw [hf] at c2
        have HF := Lib.hid hf
        clear hf
        go_wp2
        go_end0
        exact hI.out.full (n := m) (by omega) HF.out (Wfr.refl bw wr) (by have := hI.out.1; rw [HF.out] at this; exact this)
      | some l =>
        rw [hf] at c2
        have HF := Lib.hid hf
        clear hf
        by_cases hk0 : k = 0
        · subst hk0
          simp only [Nat.zero_mul, Nat.add_zero] at e0
          have key := HE.out wr (listed o tx 0) [.slice zA zk zc] (tx 0) (hI.out.2.trans (Wfr.refl bw wr)) hI.out.1 HRK.out
          rw [val_list] at key
          have KEY := Lib.hid key
          clear key
          go_wp2_with fail
          refine (show Calls Tryz.prog g (fi ++ #[.slice zA zk zc] ++ ca) _ _ from KEY.out).mono ?_
          rintro e w2 ⟨rfl, hw2, hf2⟩
          have HI2 := Lib.hid (hI.out.first ((Wfr.refl bw wr).trans hf2) hw2)
          clear hw2 hf2
          go_wp2
          go_roundw
          case rel => exact ⟨1, by omega, by go_num, HI2⟩
          case measure => simp [intOf]; omega
        · have hkp : decide (0 < (k : Int)) = true := by simp; omega
          go_wp2_with fail
          refine (text_any _ bw (listed o tx k) ⟨#[32]⟩ hI.out.1 (by decide)).mono ?_
          rintro e w2 ⟨rfl, hw2, hf2⟩
          have HF2 := Lib.hid hf2
          have key := HE.out w2 (put (listed o tx k) [32]) [.slice zA zk zc] (tx k) (hI.out.2.trans ((Wfr.refl bw wr).trans hf2)) hw2 (HRK.out.wfr hf2)
          rw [val_list] at key
          have KEY := Lib.hid key
          clear key hw2 hf2
          go_wp2_with fail
          refine (show Calls Tryz.prog g (fi ++ #[.slice zA zk zc] ++ ca) _ _ from KEY.out).mono ?_
          rintro e w3 ⟨rfl, hw3, hf3⟩
          have HI2 := Lib.hid (hI.out.next (by omega) (((Wfr.refl bw wr).trans HF2.out).trans hf3) hw3)
          clear hw3 hf3
          go_wp2
          go_roundw
          case rel => exact ⟨k + 1, by omega, by go_num, HI2⟩
          case measure => simp [intOf]; omega
    · obtain rfl : k = m := by omega
      go_wp2_with fail
      refine (text_any _ bw (listed o tx k) ⟨#[41]⟩ hI.out.1 (by decide)).mono ?_
      rintro e w2 ⟨rfl, hr2, hf2⟩
      go_wp2
      go_end0
      exact hI.out.last hf2 hr2

set_option maxHeartbeats 2000000 in
set_option maxRecDepth 100000 in
theorem ls_linTerm (g : FuncId) (fi ca : Array Value) (w : World) (bw : Nat) (o : Option (List UInt8)) (A : Option Addr) (m c : Nat) (t : List UInt8) (h : Wst w bw o) (hrep : Rep w (· < bw) (.list linTermS) [.slice A m c] [t]) (hel : ElW g fi ca linTermS bw w) :
    Calls Tryz.prog 163 #[.pointer (some ⟨bw, 0, none⟩), .slice A m c, .func (.func g) fi ca] w (WRet bw w (put o t)) := by
  obtain ⟨he, hel⟩ := hel
  unfold Enters at he
  obtain ⟨A', m', c', us, tx, hl, hmc, hcm, ht, hcl, hrp⟩ := hrep
  injection hl with hl _
  injection hl with hl1 hl2 hl3
  subst hl1; subst hl2; subst hl3
  injection ht with ht _
  subst ht
  have hbw := h.lt
  have hsz : Shape.sz linTermS = 2 := sz_linTerm
  unfold maxLen at hcm
  have HW := Lib.hid h
  have HE := Lib.hid hel
  have HCL := Lib.hid hcl
  have HRP := Lib.hid hrp
  have HSZ := Lib.hid hsz
  clear h hel hcl hrp hsz
  go_enter Tryz.func163, Tryz.ntmps163
  go_wp2_with fail
  refine (text_any _ bw o ⟨#[40]⟩ HW.out (by decide)).mono ?_
  rintro e w1 ⟨rfl, hr1, hf1⟩
  have I0 := Lib.hid (LInv.start (tx := tx) hr1 hf1)
  clear hr1 hf1
  go_wp2
  go_loopw [12] (fun iv wr => ∃ (k : Nat), k ≤ m ∧ iv = .int .i64 k ∧ Hid (LInv o tx bw w k wr)) (fun iv _ => m - (intOf iv).toNat)
  case atStart => exact ⟨0, by omega, rfl, I0⟩
  case round =>
    obtain ⟨k, hk, rfl, hI⟩ := hrel
    clear I0
    have hbwr : bw < wr.heap.size := by have := hI.out.2.1.size; omega
    by_cases hlt : k < m
    · obtain ⟨b, off, hA, hD, hblt, hcells⟩ := HCL.out (by omega)
      subst hA
      have hrk := HRP.out k hlt
      obtain ⟨z0n, z1n, hus⟩ := ty_linTerm hrk.ty
      have hsz := HSZ.out
      have e0 : wr.cell? ⟨b, off + k * 2, none⟩ = some (.int .i64 z0n) := by
        have h9 := (hI.out.2.1.cell (p := ⟨b, off + k * Shape.sz linTermS + 0, none⟩) hD).trans (hcells k hlt 0 (.int .i64 z0n) (by rw [hus]; rfl))
        rw [hsz] at h9
        simpa using h9
      have e1 : wr.cell? ⟨b, off + k * 2 + 1, none⟩ = some (.int .i64 z1n) := by
        have h9 := (hI.out.2.1.cell (p := ⟨b, off + k * Shape.sz linTermS + 1, none⟩) hD).trans (hcells k hlt 1 (.int .i64 z1n) (by rw [hus]; rfl))
        rw [hsz] at h9
        simpa using h9
      have c2 := hI.out.1.cell
      rw [hus] at hrk
      have HRK := Lib.hid (hrk.wfr hI.out.2)
      clear hus hrk hcells hsz
      cases hf : listed o tx k with
      | none =>
        rw [hf] at c2
        have HF := Lib.hid hf
        clear hf
        go_wp2
        go_end0
        exact hI.out.full (n := m) (by omega) HF.out ((Wfr.refl bw wr).allocs hbwr (.cells #[.int .i64 z0n, .int .i64 z1n] 164)) (by have := (hI.out.1.alloc (.cells #[.int .i64 z0n, .int .i64 z1n] 164)); rw [HF.out] at this; exact this)
      | some l =>
        rw [hf] at c2
        have HF := Lib.hid hf
        clear hf
        by_cases hk0 : k = 0
        · subst hk0
          simp only [Nat.zero_mul, Nat.add_zero] at e0 e1
          have key := HE.out (wr.alloc (.cells #[.int .i64 z0n, .int .i64 z1n] 164)) (listed o tx 0) [.int .i64 z0n, .int .i64 z1n] (tx 0) (hI.out.2.trans ((Wfr.refl bw wr).allocs hbwr (.cells #[.int .i64 z0n, .int .i64 z1n] 164))) (hI.out.1.alloc (.cells #[.int .i64 z0n, .int .i64 z1n] 164)) (HRK.out.allocW _)
          rw [val_linTerm] at key
          have KEY := Lib.hid key
          clear key
          go_wp2_with fail
          refine (show Calls Tryz.prog g (fi ++ #[.agg #[.int .i64 z0n, .int .i64 z1n]] ++ ca) _ _ from KEY.out).mono ?_
          rintro e w2 ⟨rfl, hw2, hf2⟩
          have HI2 := Lib.hid (hI.out.first (((Wfr.refl bw wr).allocs hbwr (.cells #[.int .i64 z0n, .int .i64 z1n] 164)).trans hf2) hw2)
          clear hw2 hf2
          go_wp2
          go_roundw
          case rel => exact ⟨1, by omega, by go_num, HI2⟩
          case measure => simp [intOf]; omega
        · have hkp : decide (0 < (k : Int)) = true := by simp; omega
          go_wp2_with fail
          refine (text_any _ bw (listed o tx k) ⟨#[32]⟩ (hI.out.1.alloc (.cells #[.int .i64 z0n, .int .i64 z1n] 164)) (by decide)).mono ?_
          rintro e w2 ⟨rfl, hw2, hf2⟩
          have HF2 := Lib.hid hf2
          have hbx := HF2.out.2 wr.heap.size _ 164 (by omega) (by decide) (Bk.new wr 164 #[.int .i64 z0n, .int .i64 z1n])
          have b0 := hbx.cell 0
          have b1 := hbx.cell 1
          simp only [List.getElem?_toArray, List.getElem?_cons_zero, List.getElem?_cons_succ] at b0 b1
          clear hbx
          have key := HE.out w2 (put (listed o tx k) [32]) [.int .i64 z0n, .int .i64 z1n] (tx k) (hI.out.2.trans (((Wfr.refl bw wr).allocs hbwr (.cells #[.int .i64 z0n, .int .i64 z1n] 164)).trans hf2)) hw2 ((HRK.out.allocW _).wfr hf2)
          rw [val_linTerm] at key
          have KEY := Lib.hid key
          clear key hw2 hf2
          go_wp2_with fail
          refine (show Calls Tryz.prog g (fi ++ #[.agg #[.int .i64 z0n, .int .i64 z1n]] ++ ca) _ _ from KEY.out).mono ?_
          rintro e w3 ⟨rfl, hw3, hf3⟩
          have HI2 := Lib.hid (hI.out.next (by omega) ((((Wfr.refl bw wr).allocs hbwr (.cells #[.int .i64 z0n, .int .i64 z1n] 164)).trans HF2.out).trans hf3) hw3)
          clear hw3 hf3
          go_wp2
          go_roundw
          case rel => exact ⟨k + 1, by omega, by go_num, HI2⟩
          case measure => simp [intOf]; omega
    · obtain rfl : k = m := by omega
      go_wp2_with fail
      refine (text_any _ bw (listed o tx k) ⟨#[41]⟩ hI.out.1 (by decide)).mono ?_
      rintro e w2 ⟨rfl, hr2, hf2⟩
      go_wp2
      go_end0
      exact hI.out.last hf2 hr2

set_option maxHeartbeats 2000000 in
set_option maxRecDepth 100000 in
theorem ls_lin (g : FuncId) (fi ca : Array Value) (w : World) (bw : Nat) (o : Option (List UInt8)) (A : Option Addr) (m c : Nat) (t : List UInt8) (h : Wst w bw o) (hrep : Rep w (· < bw) (.list linS) [.slice A m c] [t]) (hel : ElW g fi ca linS bw w) :
    Calls Tryz.prog 92 #[.pointer (some ⟨bw, 0, none⟩), .slice A m c, .func (.func g) fi ca] w (WRet bw w (put o t)) := by
  obtain ⟨he, hel⟩ := hel
  unfold Enters at he
  obtain ⟨A', m', c', us, tx, hl, hmc, hcm, ht, hcl, hrp⟩ := hrep
  injection hl with hl _
  injection hl with hl1 hl2 hl3
  subst hl1; subst hl2; subst hl3
  injection ht with ht _
  subst ht
  have hbw := h.lt
  have hsz : Shape.sz linS = 2 := sz_lin
  unfold maxLen at hcm
  have HW := Lib.hid h
  have HE := Lib.hid hel
  have HCL := Lib.hid hcl
  have HRP := Lib.hid hrp
  have HSZ := Lib.hid hsz
  clear h hel hcl hrp hsz
  go_enter Tryz.func92, Tryz.ntmps92
  go_wp2_with fail
  refine (text_any _ bw o ⟨#[40]⟩ HW.out (by decide)).mono ?_
  rintro e w1 ⟨rfl, hr1, hf1⟩
  have I0 := Lib.hid (LInv.start (tx := tx) hr1 hf1)
  clear hr1 hf1
  go_wp2
  go_loopw [12] (fun iv wr => ∃ (k : Nat), k ≤ m ∧ iv = .int .i64 k ∧ Hid (LInv o tx bw w k wr)) (fun iv _ => m - (intOf iv).toNat)
  case atStart => exact ⟨0, by omega, rfl, I0⟩
  case round =>
    obtain ⟨k, hk, rfl, hI⟩ := hrel
    clear I0
    have hbwr : bw < wr.heap.size := by have := hI.out.2.1.size; omega
    by_cases hlt : k < m
    · obtain ⟨b, off, hA, hD, hblt, hcells⟩ := HCL.out (by omega)
      subst hA
      have hrk := HRP.out k hlt
      obtain ⟨z0n, z1A, z1k, z1c, hus⟩ := ty_lin hrk.ty
      have hsz := HSZ.out
      have e0 : wr.cell? ⟨b, off + k * 2, none⟩ = some (.int .i64 z0n) := by
        have h9 := (hI.out.2.1.cell (p := ⟨b, off + k * Shape.sz linS + 0, none⟩) hD).trans (hcells k hlt 0 (.int .i64 z0n) (by rw [hus]; rfl))
        rw [hsz] at h9
        simpa using h9
      have e1 : wr.cell? ⟨b, off + k * 2 + 1, none⟩ = some (.slice z1A z1k z1c) := by
        have h9 := (hI.out.2.1.cell (p := ⟨b, off + k * Shape.sz linS + 1, none⟩) hD).trans (hcells k hlt 1 (.slice z1A z1k z1c) (by rw [hus]; rfl))
        rw [hsz] at h9
        simpa using h9
      have c2 := hI.out.1.cell
      rw [hus] at hrk
      have HRK := Lib.hid (hrk.wfr hI.out.2)
      clear hus hrk hcells hsz
      cases hf : listed o tx k with
      | none =>
        rw [hf] at c2
        have HF := Lib.hid hf
        clear hf
        go_wp2
        go_end0
        exact hI.out.full (n := m) (by omega) HF.out ((Wfr.refl bw wr).allocs hbwr (.cells #[.int .i64 z0n, .slice z1A z1k z1c] 95)) (by have := (hI.out.1.alloc (.cells #[.int .i64 z0n, .slice z1A z1k z1c] 95)); rw [HF.out] at this; exact this)
      | some l =>
        rw [hf] at c2
        have HF := Lib.hid hf
        clear hf
        by_cases hk0 : k = 0
        · subst hk0
          simp only [Nat.zero_mul, Nat.add_zero] at e0 e1
          have key := HE.out (wr.alloc (.cells #[.int .i64 z0n, .slice z1A z1k z1c] 95)) (listed o tx 0) [.int .i64 z0n, .slice z1A z1k z1c] (tx 0) (hI.out.2.trans ((Wfr.refl bw wr).allocs hbwr (.cells #[.int .i64 z0n, .slice z1A z1k z1c] 95))) (hI.out.1.alloc (.cells #[.int .i64 z0n, .slice z1A z1k z1c] 95)) (HRK.out.allocW _)
          rw [val_lin] at key
          have KEY := Lib.hid key
          clear key
          go_wp2_with fail
          refine (show Calls Tryz.prog g (fi ++ #[.agg #[.int .i64 z0n, .slice z1A z1k z1c]] ++ ca) _ _ from KEY.out).mono ?_
          rintro e w2 ⟨rfl, hw2, hf2⟩
          have HI2 := Lib.hid (hI.out.first (((Wfr.refl bw wr).allocs hbwr (.cells #[.int .i64 z0n, .slice z1A z1k z1c] 95)).trans hf2) hw2)
          clear hw2 hf2
          go_wp2
          go_roundw
          case rel => exact ⟨1, by omega, by go_num, HI2⟩
          case measure => simp [intOf]; omega
        · have hkp : decide (0 < (k : Int)) = true := by simp; omega
          go_wp2_with fail
          refine (text_any _ bw (listed o tx k) ⟨#[32]⟩ (hI.out.1.alloc (.cells #[.int .i64 z0n, .slice z1A z1k z1c] 95)) (by decide)).mono ?_
          rintro e w2 ⟨rfl, hw2, hf2⟩
          have HF2 := Lib.hid hf2
          have hbx := HF2.out.2 wr.heap.size _ 95 (by omega) (by decide) (Bk.new wr 95 #[.int .i64 z0n, .slice z1A z1k z1c])
          have b0 := hbx.cell 0
          have b1 := hbx.cell 1
          simp only [List.getElem?_toArray, List.getElem?_cons_zero, List.getElem?_cons_succ] at b0 b1
          clear hbx
          have key := HE.out w2 (put (listed o tx k) [32]) [.int .i64 z0n, .slice z1A z1k z1c] (tx k) (hI.out.2.trans (((Wfr.refl bw wr).allocs hbwr (.cells #[.int .i64 z0n, .slice z1A z1k z1c] 95)).trans hf2)) hw2 ((HRK.out.allocW _).wfr hf2)
          rw [val_lin] at key
          have KEY := Lib.hid key
          clear key hw2 hf2
          go_wp2_with fail
          refine (show Calls Tryz.prog g (fi ++ #[.agg #[.int .i64 z0n, .slice z1A z1k z1c]] ++ ca) _ _ from KEY.out).mono ?_
          rintro e w3 ⟨rfl, hw3, hf3⟩
          have HI2 := Lib.hid (hI.out.next (by omega) ((((Wfr.refl bw wr).allocs hbwr (.cells #[.int .i64 z0n, .slice z1A z1k z1c] 95)).trans HF2.out).trans hf3) hw3)
          clear hw3 hf3
          go_wp2
          go_roundw
          case rel => exact ⟨k + 1, by omega, by go_num, HI2⟩
          case measure => simp [intOf]; omega
    · obtain rfl : k = m := by omega
      go_wp2_with fail
      refine (text_any _ bw (listed o tx k) ⟨#[41]⟩ hI.out.1 (by decide)).mono ?_
      rintro e w2 ⟨rfl, hr2, hf2⟩
      go_wp2
      go_end0
      exact hI.out.last hf2 hr2

set_option maxHeartbeats 2000000 in
set_option maxRecDepth 100000 in
theorem ls_relation (g : FuncId) (fi ca : Array Value) (w : World) (bw : Nat) (o : Option (List UInt8)) (A : Option Addr) (m c : Nat) (t : List UInt8) (h : Wst w bw o) (hrep : Rep w (· < bw) (.list relationS) [.slice A m c] [t]) (hel : ElW g fi ca relationS bw w) :
    Calls Tryz.prog 33 #[.pointer (some ⟨bw, 0, none⟩), .slice A m c, .func (.func g) fi ca] w (WRet bw w (put o t)) := by
  obtain ⟨he, hel⟩ := hel
  unfold Enters at he
  obtain ⟨A', m', c', us, tx, hl, hmc, hcm, ht, hcl, hrp⟩ := hrep
  injection hl with hl _
  injection hl with hl1 hl2 hl3
  subst hl1; subst hl2; subst hl3
  injection ht with ht _
  subst ht
  have hbw := h.lt
  have hsz : Shape.sz relationS = 2 := sz_relation
  unfold maxLen at hcm
  have HW := Lib.hid h
  have HE := Lib.hid hel
  have HCL := Lib.hid hcl
  have HRP := Lib.hid hrp
  have HSZ := Lib.hid hsz
  clear h hel hcl hrp hsz
  go_enter Tryz.func33, Tryz.ntmps33
  go_wp2_with fail
  refine (text_any _ bw o ⟨#[40]⟩ HW.out (by decide)).mono ?_
  rintro e w1 ⟨rfl, hr1, hf1⟩
  have I0 := Lib.hid (LInv.start (tx := tx) hr1 hf1)
  clear hr1 hf1
  go_wp2
  go_loopw [12] (fun iv wr => ∃ (k : Nat), k ≤ m ∧ iv = .int .i64 k ∧ Hid (LInv o tx bw w k wr)) (fun iv _ => m - (intOf iv).toNat)
  case atStart => exact ⟨0, by omega, rfl, I0⟩
  case round =>
    obtain ⟨k, hk, rfl, hI⟩ := hrel
    clear I0
    have hbwr : bw < wr.heap.size := by have := hI.out.2.1.size; omega
    by_cases hlt : k < m
    · obtain ⟨b, off, hA, hD, hblt, hcells⟩ := HCL.out (by omega)
      subst hA
      have hrk := HRP.out k hlt
      obtain ⟨z0A, z0k, z0c, z1A, z1k, z1c, hus⟩ := ty_relation hrk.ty
      have hsz := HSZ.out
      have e0 : wr.cell? ⟨b, off + k * 2, none⟩ = some (.slice z0A z0k z0c) := by
        have h9 := (hI.out.2.1.cell (p := ⟨b, off + k * Shape.sz relationS + 0, none⟩) hD).trans (hcells k hlt 0 (.slice z0A z0k z0c) (by rw [hus]; rfl))
        rw [hsz] at h9
        simpa using h9
      have e1 : wr.cell? ⟨b, off + k * 2 + 1, none⟩ = some (.slice z1A z1k z1c) := by
        have h9 := (hI.out.2.1.cell (p := ⟨b, off + k * Shape.sz relationS + 1, none⟩) hD).trans (hcells k hlt 1 (.slice z1A z1k z1c) (by rw [hus]; rfl))
        rw [hsz] at h9
        simpa using h9
      have c2 := hI.out.1.cell
      rw [hus] at hrk
      have HRK := Lib.hid (hrk.wfr hI.out.2)
      clear hus hrk hcells hsz
      cases hf : listed o tx k with
      | none =>
        rw [hf] at c2
        have HF := Lib.hid hf
        clear hf
        go_wp2
        go_end0
        exact hI.out.full (n := m) (by omega) HF.out ((Wfr.refl bw wr).allocs hbwr (.cells #[.slice z0A z0k z0c, .slice z1A z1k z1c] 61)) (by have := (hI.out.1.alloc (.cells #[.slice z0A z0k z0c, .slice z1A z1k z1c] 61)); rw [HF.out] at this; exact this)
      | some l =>
        rw [hf] at c2
        have HF := Lib.hid hf
        clear hf
        by_cases hk0 : k = 0
        · subst hk0
          simp only [Nat.zero_mul, Nat.add_zero] at e0 e1
          have key := HE.out (wr.alloc (.cells #[.slice z0A z0k z0c, .slice z1A z1k z1c] 61)) (listed o tx 0) [.slice z0A z0k z0c, .slice z1A z1k z1c] (tx 0) (hI.out.2.trans ((Wfr.refl bw wr).allocs hbwr (.cells #[.slice z0A z0k z0c, .slice z1A z1k z1c] 61))) (hI.out.1.alloc (.cells #[.slice z0A z0k z0c, .slice z1A z1k z1c] 61)) (HRK.out.allocW _)
          rw [val_relation] at key
          have KEY := Lib.hid key
          clear key
          go_wp2_with fail
          refine (show Calls Tryz.prog g (fi ++ #[.agg #[.slice z0A z0k z0c, .slice z1A z1k z1c]] ++ ca) _ _ from KEY.out).mono ?_
          rintro e w2 ⟨rfl, hw2, hf2⟩
          have HI2 := Lib.hid (hI.out.first (((Wfr.refl bw wr).allocs hbwr (.cells #[.slice z0A z0k z0c, .slice z1A z1k z1c] 61)).trans hf2) hw2)
          clear hw2 hf2
          go_wp2
          go_roundw
          case rel => exact ⟨1, by omega, by go_num, HI2⟩
          case measure => simp [intOf]; omega
        · have hkp : decide (0 < (k : Int)) = true := by simp; omega
          go_wp2_with fail
          refine (text_any _ bw (listed o tx k) ⟨#[32]⟩ (hI.out.1.alloc (.cells #[.slice z0A z0k z0c, .slice z1A z1k z1c] 61)) (by decide)).mono ?_
          rintro e w2 ⟨rfl, hw2, hf2⟩
          have HF2 := Lib.hid hf2
          have hbx := HF2.out.2 wr.heap.size _ 61 (by omega) (by decide) (Bk.new wr 61 #[.slice z0A z0k z0c, .slice z1A z1k z1c])
          have b0 := hbx.cell 0
          have b1 := hbx.cell 1
          simp only [List.getElem?_toArray, List.getElem?_cons_zero, List.getElem?_cons_succ] at b0 b1
          clear hbx
          have key := HE.out w2 (put (listed o tx k) [32]) [.slice z0A z0k z0c, .slice z1A z1k z1c] (tx k) (hI.out.2.trans (((Wfr.refl bw wr).allocs hbwr (.cells #[.slice z0A z0k z0c, .slice z1A z1k z1c] 61)).trans hf2)) hw2 ((HRK.out.allocW _).wfr hf2)
          rw [val_relation] at key
          have KEY := Lib.hid key
          clear key hw2 hf2
          go_wp2_with fail
          refine (show Calls Tryz.prog g (fi ++ #[.agg #[.slice z0A z0k z0c, .slice z1A z1k z1c]] ++ ca) _ _ from KEY.out).mono ?_
          rintro e w3 ⟨rfl, hw3, hf3⟩
          have HI2 := Lib.hid (hI.out.next (by omega) ((((Wfr.refl bw wr).allocs hbwr (.cells #[.slice z0A z0k z0c, .slice z1A z1k z1c] 61)).trans HF2.out).trans hf3) hw3)
          clear hw3 hf3
          go_wp2
          go_roundw
          case rel => exact ⟨k + 1, by omega, by go_num, HI2⟩
          case measure => simp [intOf]; omega
    · obtain rfl : k = m := by omega
      go_wp2_with fail
      refine (text_any _ bw (listed o tx k) ⟨#[41]⟩ hI.out.1 (by decide)).mono ?_
      rintro e w2 ⟨rfl, hr2, hf2⟩
      go_wp2
      go_end0
      exact hI.out.last hf2 hr2

end Go.Proofs.YtdbglgjphfkonaaGreatDoor

