/-
  The reader: fields (printed by gen_codec.py).
-/
import Derived.Test.YtdbglgjphfkonaaGreatDoorHCRa
import Derived.Test.YtdbglgjphfkonaaGreatDoorHCE1
import Derived.Test.YtdbglgjphfkonaaGreatDoorHCE2
import Derived.Test.YtdbglgjphfkonaaGreatDoorHCE3
import Derived.Test.YtdbglgjphfkonaaGreatDoorHCE4
import Derived.Test.YtdbglgjphfkonaaGreatDoorHCE5
namespace Go.Proofs.YtdbglgjphfkonaaGreatDoor
open Go.RowKit AC
set_option linter.unusedVariables false
set_option linter.unusedSimpArgs false

set_option maxHeartbeats 1000000 in
theorem clo_axiom_1 (L : Nat) (hg : Reads 51 linS (L - 1)) : CloR 213 linS L 132 1 := by
  refine ⟨enters_of Tryz.func213 (by kernel_rfl) rfl, ?_⟩
  intro w br bv bt str r cs h hlen hv ht hsz d1 d2 d3 d4
  have hbt := ht.lt
  have cv := hv.cell 0
  simp only [List.getElem?_toArray, List.getElem?_cons_zero] at cv
  have hsz' : 1 + 2 ≤ cs.size := by rw [show Shape.sz linS = 2 from sz_lin] at hsz; exact hsz
  have HR := Lib.hid h
  have HV := Lib.hid hv
  have HT := Lib.hid ht
  have HG := Lib.hid hg
  clear h hv ht hg hsz
  go_enter Tryz.func213, Tryz.ntmps213
  go_wp2_with fail
  refine (HG.out _ br str (some r) HR.out (lim hlen)).mono ?_
  rintro e w1 ⟨v, rfl, hty, hst, hf, htx⟩
  have hb1 := HT.out.fr hf d1
  obtain ⟨z0n, z1A, z1k, z1c, rfl⟩ := ty_lin hty
  rw [val_lin]
  obtain ⟨y0, e0⟩ : ∃ y, w1.cell? ⟨bt, 1, none⟩ = some y := ⟨_, (hb1.cell 1).trans (Array.getElem?_eq_getElem (by omega))⟩
  have f0 := hb1.frozen 1
  obtain ⟨y1, e1⟩ : ∃ y, w1.cell? ⟨bt, 2, none⟩ = some y := ⟨_, (hb1.cell 2).trans (Array.getElem?_eq_getElem (by omega))⟩
  have f1 := hb1.frozen 2
  have HB1 := Lib.hid hb1
  have HTY := Lib.hid hty
  have HST := Lib.hid hst
  have HF := Lib.hid hf
  have HTX := Lib.hid htx
  clear hb1 hty hst hf htx
  go_wp2
  go_end0
  exact CloPost.of HTY.out HST.out HF.out HTX.out ((HB1.out.set 1 (.int .i64 z0n)).set 2 (.slice z1A z1k z1c)) (((Fr.refl _ _).wr _ _).wr _ _) hbt d1 d4

set_option maxHeartbeats 1000000 in
theorem clo_axiom_2 (L : Nat) (hg : Reads 51 linS (L - 1)) : CloR 214 linS L 132 3 := by
  refine ⟨enters_of Tryz.func214 (by kernel_rfl) rfl, ?_⟩
  intro w br bv bt str r cs h hlen hv ht hsz d1 d2 d3 d4
  have hbt := ht.lt
  have cv := hv.cell 0
  simp only [List.getElem?_toArray, List.getElem?_cons_zero] at cv
  have hsz' : 3 + 2 ≤ cs.size := by rw [show Shape.sz linS = 2 from sz_lin] at hsz; exact hsz
  have HR := Lib.hid h
  have HV := Lib.hid hv
  have HT := Lib.hid ht
  have HG := Lib.hid hg
  clear h hv ht hg hsz
  go_enter Tryz.func214, Tryz.ntmps214
  go_wp2_with fail
  refine (HG.out _ br str (some r) HR.out (lim hlen)).mono ?_
  rintro e w1 ⟨v, rfl, hty, hst, hf, htx⟩
  have hb1 := HT.out.fr hf d1
  obtain ⟨z0n, z1A, z1k, z1c, rfl⟩ := ty_lin hty
  rw [val_lin]
  obtain ⟨y0, e0⟩ : ∃ y, w1.cell? ⟨bt, 3, none⟩ = some y := ⟨_, (hb1.cell 3).trans (Array.getElem?_eq_getElem (by omega))⟩
  have f0 := hb1.frozen 3
  obtain ⟨y1, e1⟩ : ∃ y, w1.cell? ⟨bt, 4, none⟩ = some y := ⟨_, (hb1.cell 4).trans (Array.getElem?_eq_getElem (by omega))⟩
  have f1 := hb1.frozen 4
  have HB1 := Lib.hid hb1
  have HTY := Lib.hid hty
  have HST := Lib.hid hst
  have HF := Lib.hid hf
  have HTX := Lib.hid htx
  clear hb1 hty hst hf htx
  go_wp2
  go_end0
  exact CloPost.of HTY.out HST.out HF.out HTX.out ((HB1.out.set 3 (.int .i64 z0n)).set 4 (.slice z1A z1k z1c)) (((Fr.refl _ _).wr _ _).wr _ _) hbt d1 d4

set_option maxHeartbeats 1000000 in
theorem clo_axiom_3 (L : Nat) (hg : Reads 61 .int (L - 1)) : CloR 215 .int L 132 5 := by
  refine ⟨enters_of Tryz.func215 (by kernel_rfl) rfl, ?_⟩
  intro w br bv bt str r cs h hlen hv ht hsz d1 d2 d3 d4
  have hbt := ht.lt
  have cv := hv.cell 0
  simp only [List.getElem?_toArray, List.getElem?_cons_zero] at cv
  have hsz' : 5 + 1 ≤ cs.size := by rw [show Shape.sz .int = 1 from rfl] at hsz; exact hsz
  have HR := Lib.hid h
  have HV := Lib.hid hv
  have HT := Lib.hid ht
  have HG := Lib.hid hg
  clear h hv ht hg hsz
  go_enter Tryz.func215, Tryz.ntmps215
  go_wp2_with fail
  refine (HG.out _ br str (some r) HR.out (lim hlen)).mono ?_
  rintro e w1 ⟨v, rfl, hty, hst, hf, htx⟩
  have hb1 := HT.out.fr hf d1
  obtain ⟨zn, rfl⟩ := ty_int hty
  rw [val_int]
  obtain ⟨y0, e0⟩ : ∃ y, w1.cell? ⟨bt, 5, none⟩ = some y := ⟨_, (hb1.cell 5).trans (Array.getElem?_eq_getElem (by omega))⟩
  have f0 := hb1.frozen 5
  have HB1 := Lib.hid hb1
  have HTY := Lib.hid hty
  have HST := Lib.hid hst
  have HF := Lib.hid hf
  have HTX := Lib.hid htx
  clear hb1 hty hst hf htx
  go_wp2
  go_end0
  exact CloPost.of HTY.out HST.out HF.out HTX.out (HB1.out.set 5 (.int .i64 zn)) ((Fr.refl _ _).wr _ _) hbt d1 d4

set_option maxHeartbeats 1000000 in
theorem clo_axiomUse_0 (L : Nat) (hg : Reads 152 axS (L - 1)) : CloR 151 axS L 134 0 := by
  refine ⟨enters_of Tryz.func151 (by kernel_rfl) rfl, ?_⟩
  intro w br bv bt str r cs h hlen hv ht hsz d1 d2 d3 d4
  have hbt := ht.lt
  have cv := hv.cell 0
  simp only [List.getElem?_toArray, List.getElem?_cons_zero] at cv
  have hsz' : 0 + 6 ≤ cs.size := by rw [show Shape.sz axS = 6 from sz_axiom] at hsz; exact hsz
  have HR := Lib.hid h
  have HV := Lib.hid hv
  have HT := Lib.hid ht
  have HG := Lib.hid hg
  clear h hv ht hg hsz
  go_enter Tryz.func151, Tryz.ntmps151
  go_wp2_with fail
  refine (HG.out _ br str (some r) HR.out (lim hlen)).mono ?_
  rintro e w1 ⟨v, rfl, hty, hst, hf, htx⟩
  have hb1 := HT.out.fr hf d1
  obtain ⟨z0n, z1_0n, z1_1A, z1_1k, z1_1c, z2_0n, z2_1A, z2_1k, z2_1c, z3n, rfl⟩ := ty_axiom hty
  rw [val_axiom]
  obtain ⟨y0, e0⟩ : ∃ y, w1.cell? ⟨bt, 0, none⟩ = some y := ⟨_, (hb1.cell 0).trans (Array.getElem?_eq_getElem (by omega))⟩
  have f0 := hb1.frozen 0
  obtain ⟨y1, e1⟩ : ∃ y, w1.cell? ⟨bt, 1, none⟩ = some y := ⟨_, (hb1.cell 1).trans (Array.getElem?_eq_getElem (by omega))⟩
  have f1 := hb1.frozen 1
  obtain ⟨y2, e2⟩ : ∃ y, w1.cell? ⟨bt, 2, none⟩ = some y := ⟨_, (hb1.cell 2).trans (Array.getElem?_eq_getElem (by omega))⟩
  have f2 := hb1.frozen 2
  obtain ⟨y3, e3⟩ : ∃ y, w1.cell? ⟨bt, 3, none⟩ = some y := ⟨_, (hb1.cell 3).trans (Array.getElem?_eq_getElem (by omega))⟩
  have f3 := hb1.frozen 3
  obtain ⟨y4, e4⟩ : ∃ y, w1.cell? ⟨bt, 4, none⟩ = some y := ⟨_, (hb1.cell 4).trans (Array.getElem?_eq_getElem (by omega))⟩
  have f4 := hb1.frozen 4
  obtain ⟨y5, e5⟩ : ∃ y, w1.cell? ⟨bt, 5, none⟩ = some y := ⟨_, (hb1.cell 5).trans (Array.getElem?_eq_getElem (by omega))⟩
  have f5 := hb1.frozen 5
  have HB1 := Lib.hid hb1
  have HTY := Lib.hid hty
  have HST := Lib.hid hst
  have HF := Lib.hid hf
  have HTX := Lib.hid htx
  clear hb1 hty hst hf htx
  go_wp2
  go_end0
  exact CloPost.of HTY.out HST.out HF.out HTX.out ((((((HB1.out.set 0 (.int .i64 z0n)).set 1 (.int .i64 z1_0n)).set 2 (.slice z1_1A z1_1k z1_1c)).set 3 (.int .i64 z2_0n)).set 4 (.slice z2_1A z2_1k z2_1c)).set 5 (.int .i64 z3n)) (((((((Fr.refl _ _).wr _ _).wr _ _).wr _ _).wr _ _).wr _ _).wr _ _) hbt d1 d4

set_option maxHeartbeats 1000000 in
theorem clo_axiomUse_1 (L : Nat) (hg : Reads 139 .rat (L - 1)) : CloR 153 .rat L 134 6 := by
  refine ⟨enters_of Tryz.func153 (by kernel_rfl) rfl, ?_⟩
  intro w br bv bt str r cs h hlen hv ht hsz d1 d2 d3 d4
  have hbt := ht.lt
  have cv := hv.cell 0
  simp only [List.getElem?_toArray, List.getElem?_cons_zero] at cv
  have hsz' : 6 + 3 ≤ cs.size := by rw [show Shape.sz .rat = 3 from rfl] at hsz; exact hsz
  have HR := Lib.hid h
  have HV := Lib.hid hv
  have HT := Lib.hid ht
  have HG := Lib.hid hg
  clear h hv ht hg hsz
  go_enter Tryz.func153, Tryz.ntmps153
  go_wp2_with fail
  refine (HG.out _ br str (some r) HR.out (lim hlen)).mono ?_
  rintro e w1 ⟨v, rfl, hty, hst, hf, htx⟩
  have hb1 := HT.out.fr hf d1
  obtain ⟨zb, zA, zk, zc, zD, zl, zd, rfl⟩ := ty_rat hty
  rw [val_rat]
  obtain ⟨y0, e0⟩ : ∃ y, w1.cell? ⟨bt, 6, none⟩ = some y := ⟨_, (hb1.cell 6).trans (Array.getElem?_eq_getElem (by omega))⟩
  have f0 := hb1.frozen 6
  obtain ⟨y1, e1⟩ : ∃ y, w1.cell? ⟨bt, 7, none⟩ = some y := ⟨_, (hb1.cell 7).trans (Array.getElem?_eq_getElem (by omega))⟩
  have f1 := hb1.frozen 7
  obtain ⟨y2, e2⟩ : ∃ y, w1.cell? ⟨bt, 8, none⟩ = some y := ⟨_, (hb1.cell 8).trans (Array.getElem?_eq_getElem (by omega))⟩
  have f2 := hb1.frozen 8
  have HB1 := Lib.hid hb1
  have HTY := Lib.hid hty
  have HST := Lib.hid hst
  have HF := Lib.hid hf
  have HTX := Lib.hid htx
  clear hb1 hty hst hf htx
  go_wp2
  go_end0
  exact CloPost.of HTY.out HST.out HF.out HTX.out (((HB1.out.set 6 (.bool zb)).set 7 (.slice zA zk zc)).set 8 (.slice zD zl zd)) ((((Fr.refl _ _).wr _ _).wr _ _).wr _ _) hbt d1 d4

set_option maxHeartbeats 1000000 in
theorem clo_axiomUse_2 (n : Nat) (L : Nat) (hg : Reads 141 (monoS n) (L - 1)) : CloR 154 (monoS n) L 134 9 := by
  refine ⟨enters_of Tryz.func154 (by kernel_rfl) rfl, ?_⟩
  intro w br bv bt str r cs h hlen hv ht hsz d1 d2 d3 d4
  have hbt := ht.lt
  have cv := hv.cell 0
  simp only [List.getElem?_toArray, List.getElem?_cons_zero] at cv
  have hsz' : 9 + 2 ≤ cs.size := by rw [show Shape.sz (monoS n) = 2 from sz_mono] at hsz; exact hsz
  have HR := Lib.hid h
  have HV := Lib.hid hv
  have HT := Lib.hid ht
  have HG := Lib.hid hg
  clear h hv ht hg hsz
  go_enter Tryz.func154, Tryz.ntmps154
  go_wp2_with fail
  refine (HG.out _ br str (some r) HR.out (lim hlen)).mono ?_
  rintro e w1 ⟨v, rfl, hty, hst, hf, htx⟩
  have hb1 := HT.out.fr hf d1
  obtain ⟨z0A, z0k, z0c, z1A, z1k, z1c, rfl⟩ := ty_mono hty
  rw [val_mono]
  obtain ⟨y0, e0⟩ : ∃ y, w1.cell? ⟨bt, 9, none⟩ = some y := ⟨_, (hb1.cell 9).trans (Array.getElem?_eq_getElem (by omega))⟩
  have f0 := hb1.frozen 9
  obtain ⟨y1, e1⟩ : ∃ y, w1.cell? ⟨bt, 10, none⟩ = some y := ⟨_, (hb1.cell 10).trans (Array.getElem?_eq_getElem (by omega))⟩
  have f1 := hb1.frozen 10
  have HB1 := Lib.hid hb1
  have HTY := Lib.hid hty
  have HST := Lib.hid hst
  have HF := Lib.hid hf
  have HTX := Lib.hid htx
  clear hb1 hty hst hf htx
  go_wp2
  go_end0
  exact CloPost.of HTY.out HST.out HF.out HTX.out ((HB1.out.set 9 (.slice z0A z0k z0c)).set 10 (.slice z1A z1k z1c)) (((Fr.refl _ _).wr _ _).wr _ _) hbt d1 d4

set_option maxHeartbeats 1000000 in
theorem clo_axiomUse_3 (L : Nat) (hg : Reads 77 (.list .rat) (L - 1)) : CloR 155 (.list .rat) L 134 11 := by
  refine ⟨enters_of Tryz.func155 (by kernel_rfl) rfl, ?_⟩
  intro w br bv bt str r cs h hlen hv ht hsz d1 d2 d3 d4
  have hbt := ht.lt
  have cv := hv.cell 0
  simp only [List.getElem?_toArray, List.getElem?_cons_zero] at cv
  have hsz' : 11 + 1 ≤ cs.size := by rw [show Shape.sz (.list .rat) = 1 from rfl] at hsz; exact hsz
  have HR := Lib.hid h
  have HV := Lib.hid hv
  have HT := Lib.hid ht
  have HG := Lib.hid hg
  clear h hv ht hg hsz
  go_enter Tryz.func155, Tryz.ntmps155
  go_wp2_with fail
  refine (HG.out _ br str (some r) HR.out (lim hlen)).mono ?_
  rintro e w1 ⟨v, rfl, hty, hst, hf, htx⟩
  have hb1 := HT.out.fr hf d1
  obtain ⟨zA, zk, zc, rfl⟩ := ty_list hty
  rw [val_list]
  obtain ⟨y0, e0⟩ : ∃ y, w1.cell? ⟨bt, 11, none⟩ = some y := ⟨_, (hb1.cell 11).trans (Array.getElem?_eq_getElem (by omega))⟩
  have f0 := hb1.frozen 11
  have HB1 := Lib.hid hb1
  have HTY := Lib.hid hty
  have HST := Lib.hid hst
  have HF := Lib.hid hf
  have HTX := Lib.hid htx
  clear hb1 hty hst hf htx
  go_wp2
  go_end0
  exact CloPost.of HTY.out HST.out HF.out HTX.out (HB1.out.set 11 (.slice zA zk zc)) ((Fr.refl _ _).wr _ _) hbt d1 d4

set_option maxHeartbeats 1000000 in
theorem clo_axiomUse_4 (L : Nat) (hg : Reads 77 (.list .rat) (L - 1)) : CloR 156 (.list .rat) L 134 12 := by
  refine ⟨enters_of Tryz.func156 (by kernel_rfl) rfl, ?_⟩
  intro w br bv bt str r cs h hlen hv ht hsz d1 d2 d3 d4
  have hbt := ht.lt
  have cv := hv.cell 0
  simp only [List.getElem?_toArray, List.getElem?_cons_zero] at cv
  have hsz' : 12 + 1 ≤ cs.size := by rw [show Shape.sz (.list .rat) = 1 from rfl] at hsz; exact hsz
  have HR := Lib.hid h
  have HV := Lib.hid hv
  have HT := Lib.hid ht
  have HG := Lib.hid hg
  clear h hv ht hg hsz
  go_enter Tryz.func156, Tryz.ntmps156
  go_wp2_with fail
  refine (HG.out _ br str (some r) HR.out (lim hlen)).mono ?_
  rintro e w1 ⟨v, rfl, hty, hst, hf, htx⟩
  have hb1 := HT.out.fr hf d1
  obtain ⟨zA, zk, zc, rfl⟩ := ty_list hty
  rw [val_list]
  obtain ⟨y0, e0⟩ : ∃ y, w1.cell? ⟨bt, 12, none⟩ = some y := ⟨_, (hb1.cell 12).trans (Array.getElem?_eq_getElem (by omega))⟩
  have f0 := hb1.frozen 12
  have HB1 := Lib.hid hb1
  have HTY := Lib.hid hty
  have HST := Lib.hid hst
  have HF := Lib.hid hf
  have HTX := Lib.hid htx
  clear hb1 hty hst hf htx
  go_wp2
  go_end0
  exact CloPost.of HTY.out HST.out HF.out HTX.out (HB1.out.set 12 (.slice zA zk zc)) ((Fr.refl _ _).wr _ _) hbt d1 d4

set_option maxHeartbeats 1000000 in
theorem clo_node_0 (L : Nat) (hg : Reads 61 .int (L - 1)) : CloR 60 .int L 72 0 := by
  refine ⟨enters_of Tryz.func60 (by kernel_rfl) rfl, ?_⟩
  intro w br bv bt str r cs h hlen hv ht hsz d1 d2 d3 d4
  have hbt := ht.lt
  have cv := hv.cell 0
  simp only [List.getElem?_toArray, List.getElem?_cons_zero] at cv
  have hsz' : 0 + 1 ≤ cs.size := by rw [show Shape.sz .int = 1 from rfl] at hsz; exact hsz
  have HR := Lib.hid h
  have HV := Lib.hid hv
  have HT := Lib.hid ht
  have HG := Lib.hid hg
  clear h hv ht hg hsz
  go_enter Tryz.func60, Tryz.ntmps60
  go_wp2_with fail
  refine (HG.out _ br str (some r) HR.out (lim hlen)).mono ?_
  rintro e w1 ⟨v, rfl, hty, hst, hf, htx⟩
  have hb1 := HT.out.fr hf d1
  obtain ⟨zn, rfl⟩ := ty_int hty
  rw [val_int]
  obtain ⟨y0, e0⟩ : ∃ y, w1.cell? ⟨bt, 0, none⟩ = some y := ⟨_, (hb1.cell 0).trans (Array.getElem?_eq_getElem (by omega))⟩
  have f0 := hb1.frozen 0
  have HB1 := Lib.hid hb1
  have HTY := Lib.hid hty
  have HST := Lib.hid hst
  have HF := Lib.hid hf
  have HTX := Lib.hid htx
  clear hb1 hty hst hf htx
  go_wp2
  go_end0
  exact CloPost.of HTY.out HST.out HF.out HTX.out (HB1.out.set 0 (.int .i64 zn)) ((Fr.refl _ _).wr _ _) hbt d1 d4

set_option maxHeartbeats 1000000 in
theorem clo_node_1 (L : Nat) (hg : Reads 61 .int (L - 1)) : CloR 62 .int L 72 1 := by
  refine ⟨enters_of Tryz.func62 (by kernel_rfl) rfl, ?_⟩
  intro w br bv bt str r cs h hlen hv ht hsz d1 d2 d3 d4
  have hbt := ht.lt
  have cv := hv.cell 0
  simp only [List.getElem?_toArray, List.getElem?_cons_zero] at cv
  have hsz' : 1 + 1 ≤ cs.size := by rw [show Shape.sz .int = 1 from rfl] at hsz; exact hsz
  have HR := Lib.hid h
  have HV := Lib.hid hv
  have HT := Lib.hid ht
  have HG := Lib.hid hg
  clear h hv ht hg hsz
  go_enter Tryz.func62, Tryz.ntmps62
  go_wp2_with fail
  refine (HG.out _ br str (some r) HR.out (lim hlen)).mono ?_
  rintro e w1 ⟨v, rfl, hty, hst, hf, htx⟩
  have hb1 := HT.out.fr hf d1
  obtain ⟨zn, rfl⟩ := ty_int hty
  rw [val_int]
  obtain ⟨y0, e0⟩ : ∃ y, w1.cell? ⟨bt, 1, none⟩ = some y := ⟨_, (hb1.cell 1).trans (Array.getElem?_eq_getElem (by omega))⟩
  have f0 := hb1.frozen 1
  have HB1 := Lib.hid hb1
  have HTY := Lib.hid hty
  have HST := Lib.hid hst
  have HF := Lib.hid hf
  have HTX := Lib.hid htx
  clear hb1 hty hst hf htx
  go_wp2
  go_end0
  exact CloPost.of HTY.out HST.out HF.out HTX.out (HB1.out.set 1 (.int .i64 zn)) ((Fr.refl _ _).wr _ _) hbt d1 d4

set_option maxHeartbeats 1000000 in
theorem clo_node_2 (L : Nat) (hg : Reads 13 .bool (L - 1)) : CloR 63 .bool L 72 2 := by
  refine ⟨enters_of Tryz.func63 (by kernel_rfl) rfl, ?_⟩
  intro w br bv bt str r cs h hlen hv ht hsz d1 d2 d3 d4
  have hbt := ht.lt
  have cv := hv.cell 0
  simp only [List.getElem?_toArray, List.getElem?_cons_zero] at cv
  have hsz' : 2 + 1 ≤ cs.size := by rw [show Shape.sz .bool = 1 from rfl] at hsz; exact hsz
  have HR := Lib.hid h
  have HV := Lib.hid hv
  have HT := Lib.hid ht
  have HG := Lib.hid hg
  clear h hv ht hg hsz
  go_enter Tryz.func63, Tryz.ntmps63
  go_wp2_with fail
  refine (HG.out _ br str (some r) HR.out (lim hlen)).mono ?_
  rintro e w1 ⟨v, rfl, hty, hst, hf, htx⟩
  have hb1 := HT.out.fr hf d1
  obtain ⟨zb, rfl⟩ := ty_bool hty
  rw [val_bool]
  obtain ⟨y0, e0⟩ : ∃ y, w1.cell? ⟨bt, 2, none⟩ = some y := ⟨_, (hb1.cell 2).trans (Array.getElem?_eq_getElem (by omega))⟩
  have f0 := hb1.frozen 2
  have HB1 := Lib.hid hb1
  have HTY := Lib.hid hty
  have HST := Lib.hid hst
  have HF := Lib.hid hf
  have HTX := Lib.hid htx
  clear hb1 hty hst hf htx
  go_wp2
  go_end0
  exact CloPost.of HTY.out HST.out HF.out HTX.out (HB1.out.set 2 (.bool zb)) ((Fr.refl _ _).wr _ _) hbt d1 d4

set_option maxHeartbeats 1000000 in
theorem clo_node_3 (n : Nat) (L : Nat) (hg : Reads 66 (termS n) (L - 1)) : CloR 64 (.list (termS n)) L 72 3 := by
  refine ⟨enters_of Tryz.func64 (by kernel_rfl) rfl, ?_⟩
  intro w br bv bt str r cs h hlen hv ht hsz d1 d2 d3 d4
  have hbt := ht.lt
  have cv := hv.cell 0
  simp only [List.getElem?_toArray, List.getElem?_cons_zero] at cv
  have hsz' : 3 + 1 ≤ cs.size := by rw [show Shape.sz (.list (termS n)) = 1 from rfl] at hsz; exact hsz
  have HR := Lib.hid h
  have HV := Lib.hid hv
  have HT := Lib.hid ht
  have HG := Lib.hid hg
  clear h hv ht hg hsz
  go_enter Tryz.func64, Tryz.ntmps64
  go_wp2_with fail
  refine (el_term n (L - 1) _ _ _ _ br str (some r) HR.out (lim hlen) (ElR.meth (enters_of Tryz.func66 (by kernel_rfl) rfl) HG.out br str _)).mono ?_
  rintro e w1 ⟨v, rfl, hty, hst, hf, htx⟩
  have hb1 := HT.out.fr hf d1
  obtain ⟨zA, zk, zc, rfl⟩ := ty_list hty
  rw [val_list]
  obtain ⟨y0, e0⟩ : ∃ y, w1.cell? ⟨bt, 3, none⟩ = some y := ⟨_, (hb1.cell 3).trans (Array.getElem?_eq_getElem (by omega))⟩
  have f0 := hb1.frozen 3
  have HB1 := Lib.hid hb1
  have HTY := Lib.hid hty
  have HST := Lib.hid hst
  have HF := Lib.hid hf
  have HTX := Lib.hid htx
  clear hb1 hty hst hf htx
  go_wp2
  go_end0
  exact CloPost.of HTY.out HST.out HF.out HTX.out (HB1.out.set 3 (.slice zA zk zc)) ((Fr.refl _ _).wr _ _) hbt d1 d4

end Go.Proofs.YtdbglgjphfkonaaGreatDoor

/-
  The reader: fields (printed by gen_codec.py).
-/
namespace Go.Proofs.YtdbglgjphfkonaaGreatDoor
open Go.RowKit AC
set_option linter.unusedVariables false
set_option linter.unusedSimpArgs false

set_option maxHeartbeats 1000000 in
theorem elr_x (n L : Nat) (hg : Reads 82 (axuS n) L) (w : World) (br bv : Nat) (str : ByteArray) (hv : Bk w bv 44 #[.pointer (some ⟨br, 0, none⟩)]) (d : bv ≠ br) : ElR 80 (#[] ++ #[.pointer (some ⟨bv, 0, none⟩)]) (.list (axuS n)) L br str w := by
  refine ⟨enters_of Tryz.func80 (by kernel_rfl) rfl, fun W o hf hr hl => ?_⟩
  have cv := (hv.fr hf d).cell 0
  simp only [List.getElem?_toArray, List.getElem?_cons_zero] at cv
  have HR := Lib.hid hr
  have HL := Lib.hid hl
  have HG := Lib.hid hg
  clear hv hf hr hl hg
  show Calls Tryz.prog 80 #[.pointer (some ⟨bv, 0, none⟩)] W _
  go_enter Tryz.func80, Tryz.ntmps80
  go_wp2_with fail
  refine (el_axiomUse n L _ _ _ _ br str o HR.out HL.out (ElR.meth (enters_of Tryz.func82 (by kernel_rfl) rfl) HG.out br str _)).mono ?_
  rintro e w1 ⟨v, rfl, hp⟩
  have hty := hp.1
  obtain ⟨zA, zk, zc, rfl⟩ := ty_list hty
  rw [val_list]
  have HP := Lib.hid hp
  clear hp hty
  go_wp2
  go_ret
  exact ⟨_, rfl, HP.out⟩

set_option maxHeartbeats 1000000 in
theorem clo_node_4 (n : Nat) (L : Nat) (hg : Reads 66 (termS n) (L - 1)) : CloR 67 (.list (termS n)) L 72 4 := by
  refine ⟨enters_of Tryz.func67 (by kernel_rfl) rfl, ?_⟩
  intro w br bv bt str r cs h hlen hv ht hsz d1 d2 d3 d4
  have hbt := ht.lt
  have cv := hv.cell 0
  simp only [List.getElem?_toArray, List.getElem?_cons_zero] at cv
  have hsz' : 4 + 1 ≤ cs.size := by rw [show Shape.sz (.list (termS n)) = 1 from rfl] at hsz; exact hsz
  have HR := Lib.hid h
  have HV := Lib.hid hv
  have HT := Lib.hid ht
  have HG := Lib.hid hg
  clear h hv ht hg hsz
  go_enter Tryz.func67, Tryz.ntmps67
  go_wp2_with fail
  refine (el_term n (L - 1) _ _ _ _ br str (some r) HR.out (lim hlen) (ElR.meth (enters_of Tryz.func66 (by kernel_rfl) rfl) HG.out br str _)).mono ?_
  rintro e w1 ⟨v, rfl, hty, hst, hf, htx⟩
  have hb1 := HT.out.fr hf d1
  obtain ⟨zA, zk, zc, rfl⟩ := ty_list hty
  rw [val_list]
  obtain ⟨y0, e0⟩ : ∃ y, w1.cell? ⟨bt, 4, none⟩ = some y := ⟨_, (hb1.cell 4).trans (Array.getElem?_eq_getElem (by omega))⟩
  have f0 := hb1.frozen 4
  have HB1 := Lib.hid hb1
  have HTY := Lib.hid hty
  have HST := Lib.hid hst
  have HF := Lib.hid hf
  have HTX := Lib.hid htx
  clear hb1 hty hst hf htx
  go_wp2
  go_end0
  exact CloPost.of HTY.out HST.out HF.out HTX.out (HB1.out.set 4 (.slice zA zk zc)) ((Fr.refl _ _).wr _ _) hbt d1 d4

set_option maxHeartbeats 1000000 in
theorem clo_node_5 (n : Nat) (L : Nat) (hg : Reads 70 (targetS n) (L - 1)) : CloR 68 (.list (targetS n)) L 72 5 := by
  refine ⟨enters_of Tryz.func68 (by kernel_rfl) rfl, ?_⟩
  intro w br bv bt str r cs h hlen hv ht hsz d1 d2 d3 d4
  have hbt := ht.lt
  have cv := hv.cell 0
  simp only [List.getElem?_toArray, List.getElem?_cons_zero] at cv
  have hsz' : 5 + 1 ≤ cs.size := by rw [show Shape.sz (.list (targetS n)) = 1 from rfl] at hsz; exact hsz
  have HR := Lib.hid h
  have HV := Lib.hid hv
  have HT := Lib.hid ht
  have HG := Lib.hid hg
  clear h hv ht hg hsz
  go_enter Tryz.func68, Tryz.ntmps68
  go_wp2_with fail
  refine (el_target n (L - 1) _ _ _ _ br str (some r) HR.out (lim hlen) (ElR.meth (enters_of Tryz.func70 (by kernel_rfl) rfl) HG.out br str _)).mono ?_
  rintro e w1 ⟨v, rfl, hty, hst, hf, htx⟩
  have hb1 := HT.out.fr hf d1
  obtain ⟨zA, zk, zc, rfl⟩ := ty_list hty
  rw [val_list]
  obtain ⟨y0, e0⟩ : ∃ y, w1.cell? ⟨bt, 5, none⟩ = some y := ⟨_, (hb1.cell 5).trans (Array.getElem?_eq_getElem (by omega))⟩
  have f0 := hb1.frozen 5
  have HB1 := Lib.hid hb1
  have HTY := Lib.hid hty
  have HST := Lib.hid hst
  have HF := Lib.hid hf
  have HTX := Lib.hid htx
  clear hb1 hty hst hf htx
  go_wp2
  go_end0
  exact CloPost.of HTY.out HST.out HF.out HTX.out (HB1.out.set 5 (.slice zA zk zc)) ((Fr.refl _ _).wr _ _) hbt d1 d4

set_option maxHeartbeats 1000000 in
theorem clo_node_6 (n : Nat) (L : Nat) (hg : Reads 73 (useS n) (L - 1)) : CloR 71 (.list (useS n)) L 72 6 := by
  refine ⟨enters_of Tryz.func71 (by kernel_rfl) rfl, ?_⟩
  intro w br bv bt str r cs h hlen hv ht hsz d1 d2 d3 d4
  have hbt := ht.lt
  have cv := hv.cell 0
  simp only [List.getElem?_toArray, List.getElem?_cons_zero] at cv
  have hsz' : 6 + 1 ≤ cs.size := by rw [show Shape.sz (.list (useS n)) = 1 from rfl] at hsz; exact hsz
  have HR := Lib.hid h
  have HV := Lib.hid hv
  have HT := Lib.hid ht
  have HG := Lib.hid hg
  clear h hv ht hg hsz
  go_enter Tryz.func71, Tryz.ntmps71
  go_wp2_with fail
  refine (el_part n (L - 1) _ _ _ _ br str (some r) HR.out (lim hlen) (ElR.meth (enters_of Tryz.func73 (by kernel_rfl) rfl) HG.out br str _)).mono ?_
  rintro e w1 ⟨v, rfl, hty, hst, hf, htx⟩
  have hb1 := HT.out.fr hf d1
  obtain ⟨zA, zk, zc, rfl⟩ := ty_list hty
  rw [val_list]
  obtain ⟨y0, e0⟩ : ∃ y, w1.cell? ⟨bt, 6, none⟩ = some y := ⟨_, (hb1.cell 6).trans (Array.getElem?_eq_getElem (by omega))⟩
  have f0 := hb1.frozen 6
  have HB1 := Lib.hid hb1
  have HTY := Lib.hid hty
  have HST := Lib.hid hst
  have HF := Lib.hid hf
  have HTX := Lib.hid htx
  clear hb1 hty hst hf htx
  go_wp2
  go_end0
  exact CloPost.of HTY.out HST.out HF.out HTX.out (HB1.out.set 6 (.slice zA zk zc)) ((Fr.refl _ _).wr _ _) hbt d1 d4

set_option maxHeartbeats 1000000 in
theorem clo_node_7 (n : Nat) (L : Nat) (hg : Reads 66 (termS n) (L - 1)) : CloR 74 (.list (termS n)) L 72 7 := by
  refine ⟨enters_of Tryz.func74 (by kernel_rfl) rfl, ?_⟩
  intro w br bv bt str r cs h hlen hv ht hsz d1 d2 d3 d4
  have hbt := ht.lt
  have cv := hv.cell 0
  simp only [List.getElem?_toArray, List.getElem?_cons_zero] at cv
  have hsz' : 7 + 1 ≤ cs.size := by rw [show Shape.sz (.list (termS n)) = 1 from rfl] at hsz; exact hsz
  have HR := Lib.hid h
  have HV := Lib.hid hv
  have HT := Lib.hid ht
  have HG := Lib.hid hg
  clear h hv ht hg hsz
  go_enter Tryz.func74, Tryz.ntmps74
  go_wp2_with fail
  refine (el_term n (L - 1) _ _ _ _ br str (some r) HR.out (lim hlen) (ElR.meth (enters_of Tryz.func66 (by kernel_rfl) rfl) HG.out br str _)).mono ?_
  rintro e w1 ⟨v, rfl, hty, hst, hf, htx⟩
  have hb1 := HT.out.fr hf d1
  obtain ⟨zA, zk, zc, rfl⟩ := ty_list hty
  rw [val_list]
  obtain ⟨y0, e0⟩ : ∃ y, w1.cell? ⟨bt, 7, none⟩ = some y := ⟨_, (hb1.cell 7).trans (Array.getElem?_eq_getElem (by omega))⟩
  have f0 := hb1.frozen 7
  have HB1 := Lib.hid hb1
  have HTY := Lib.hid hty
  have HST := Lib.hid hst
  have HF := Lib.hid hf
  have HTX := Lib.hid htx
  clear hb1 hty hst hf htx
  go_wp2
  go_end0
  exact CloPost.of HTY.out HST.out HF.out HTX.out (HB1.out.set 7 (.slice zA zk zc)) ((Fr.refl _ _).wr _ _) hbt d1 d4

set_option maxHeartbeats 1000000 in
theorem clo_node_8 (L : Nat) (hg : Reads 55 (.list .int) (L - 1)) : CloR 75 (.list .int) L 72 8 := by
  refine ⟨enters_of Tryz.func75 (by kernel_rfl) rfl, ?_⟩
  intro w br bv bt str r cs h hlen hv ht hsz d1 d2 d3 d4
  have hbt := ht.lt
  have cv := hv.cell 0
  simp only [List.getElem?_toArray, List.getElem?_cons_zero] at cv
  have hsz' : 8 + 1 ≤ cs.size := by rw [show Shape.sz (.list .int) = 1 from rfl] at hsz; exact hsz
  have HR := Lib.hid h
  have HV := Lib.hid hv
  have HT := Lib.hid ht
  have HG := Lib.hid hg
  clear h hv ht hg hsz
  go_enter Tryz.func75, Tryz.ntmps75
  go_wp2_with fail
  refine (HG.out _ br str (some r) HR.out (lim hlen)).mono ?_
  rintro e w1 ⟨v, rfl, hty, hst, hf, htx⟩
  have hb1 := HT.out.fr hf d1
  obtain ⟨zA, zk, zc, rfl⟩ := ty_list hty
  rw [val_list]
  obtain ⟨y0, e0⟩ : ∃ y, w1.cell? ⟨bt, 8, none⟩ = some y := ⟨_, (hb1.cell 8).trans (Array.getElem?_eq_getElem (by omega))⟩
  have f0 := hb1.frozen 8
  have HB1 := Lib.hid hb1
  have HTY := Lib.hid hty
  have HST := Lib.hid hst
  have HF := Lib.hid hf
  have HTX := Lib.hid htx
  clear hb1 hty hst hf htx
  go_wp2
  go_end0
  exact CloPost.of HTY.out HST.out HF.out HTX.out (HB1.out.set 8 (.slice zA zk zc)) ((Fr.refl _ _).wr _ _) hbt d1 d4

set_option maxHeartbeats 1000000 in
theorem clo_node_9 (L : Nat) (hg : Reads 77 (.list .rat) (L - 1)) : CloR 76 (.list .rat) L 72 9 := by
  refine ⟨enters_of Tryz.func76 (by kernel_rfl) rfl, ?_⟩
  intro w br bv bt str r cs h hlen hv ht hsz d1 d2 d3 d4
  have hbt := ht.lt
  have cv := hv.cell 0
  simp only [List.getElem?_toArray, List.getElem?_cons_zero] at cv
  have hsz' : 9 + 1 ≤ cs.size := by rw [show Shape.sz (.list .rat) = 1 from rfl] at hsz; exact hsz
  have HR := Lib.hid h
  have HV := Lib.hid hv
  have HT := Lib.hid ht
  have HG := Lib.hid hg
  clear h hv ht hg hsz
  go_enter Tryz.func76, Tryz.ntmps76
  go_wp2_with fail
  refine (HG.out _ br str (some r) HR.out (lim hlen)).mono ?_
  rintro e w1 ⟨v, rfl, hty, hst, hf, htx⟩
  have hb1 := HT.out.fr hf d1
  obtain ⟨zA, zk, zc, rfl⟩ := ty_list hty
  rw [val_list]
  obtain ⟨y0, e0⟩ : ∃ y, w1.cell? ⟨bt, 9, none⟩ = some y := ⟨_, (hb1.cell 9).trans (Array.getElem?_eq_getElem (by omega))⟩
  have f0 := hb1.frozen 9
  have HB1 := Lib.hid hb1
  have HTY := Lib.hid hty
  have HST := Lib.hid hst
  have HF := Lib.hid hf
  have HTX := Lib.hid htx
  clear hb1 hty hst hf htx
  go_wp2
  go_end0
  exact CloPost.of HTY.out HST.out HF.out HTX.out (HB1.out.set 9 (.slice zA zk zc)) ((Fr.refl _ _).wr _ _) hbt d1 d4

set_option maxHeartbeats 1000000 in
theorem clo_node_10 (n : Nat) (L : Nat) (hg : Reads 82 (axuS n) (L - 1)) : CloR 78 (.list (.list (axuS n))) L 72 10 := by
  refine ⟨enters_of Tryz.func78 (by kernel_rfl) rfl, ?_⟩
  intro w br bv bt str r cs h hlen hv ht hsz d1 d2 d3 d4
  have hbt := ht.lt
  have cv := hv.cell 0
  simp only [List.getElem?_toArray, List.getElem?_cons_zero] at cv
  have hsz' : 10 + 1 ≤ cs.size := by rw [show Shape.sz (.list (.list (axuS n))) = 1 from rfl] at hsz; exact hsz
  have HR := Lib.hid h
  have HV := Lib.hid hv
  have HT := Lib.hid ht
  have HG := Lib.hid hg
  clear h hv ht hg hsz
  go_enter Tryz.func78, Tryz.ntmps78
  go_wp2_with fail
  refine (el_l_axiomUse n (L - 1) _ _ _ _ br str (some r) HR.out (lim hlen) (elr_x n (L - 1) HG.out w br bv str HV.out d2)).mono ?_
  rintro e w1 ⟨v, rfl, hty, hst, hf, htx⟩
  have hb1 := HT.out.fr hf d1
  obtain ⟨zA, zk, zc, rfl⟩ := ty_list hty
  rw [val_list]
  obtain ⟨y0, e0⟩ : ∃ y, w1.cell? ⟨bt, 10, none⟩ = some y := ⟨_, (hb1.cell 10).trans (Array.getElem?_eq_getElem (by omega))⟩
  have f0 := hb1.frozen 10
  have HB1 := Lib.hid hb1
  have HTY := Lib.hid hty
  have HST := Lib.hid hst
  have HF := Lib.hid hf
  have HTX := Lib.hid htx
  clear hb1 hty hst hf htx
  go_wp2
  go_end0
  exact CloPost.of HTY.out HST.out HF.out HTX.out (HB1.out.set 10 (.slice zA zk zc)) ((Fr.refl _ _).wr _ _) hbt d1 d4

set_option maxHeartbeats 1000000 in
theorem clo_claim_0 (L : Nat) (hg : Reads 61 .int (L - 1)) : CloR 83 .int L 76 0 := by
  refine ⟨enters_of Tryz.func83 (by kernel_rfl) rfl, ?_⟩
  intro w br bv bt str r cs h hlen hv ht hsz d1 d2 d3 d4
  have hbt := ht.lt
  have cv := hv.cell 0
  simp only [List.getElem?_toArray, List.getElem?_cons_zero] at cv
  have hsz' : 0 + 1 ≤ cs.size := by rw [show Shape.sz .int = 1 from rfl] at hsz; exact hsz
  have HR := Lib.hid h
  have HV := Lib.hid hv
  have HT := Lib.hid ht
  have HG := Lib.hid hg
  clear h hv ht hg hsz
  go_enter Tryz.func83, Tryz.ntmps83
  go_wp2_with fail
  refine (HG.out _ br str (some r) HR.out (lim hlen)).mono ?_
  rintro e w1 ⟨v, rfl, hty, hst, hf, htx⟩
  have hb1 := HT.out.fr hf d1
  obtain ⟨zn, rfl⟩ := ty_int hty
  rw [val_int]
  obtain ⟨y0, e0⟩ : ∃ y, w1.cell? ⟨bt, 0, none⟩ = some y := ⟨_, (hb1.cell 0).trans (Array.getElem?_eq_getElem (by omega))⟩
  have f0 := hb1.frozen 0
  have HB1 := Lib.hid hb1
  have HTY := Lib.hid hty
  have HST := Lib.hid hst
  have HF := Lib.hid hf
  have HTX := Lib.hid htx
  clear hb1 hty hst hf htx
  go_wp2
  go_end0
  exact CloPost.of HTY.out HST.out HF.out HTX.out (HB1.out.set 0 (.int .i64 zn)) ((Fr.refl _ _).wr _ _) hbt d1 d4

set_option maxHeartbeats 1000000 in
theorem clo_claim_1 (L : Nat) (hg : Reads 61 .int (L - 1)) : CloR 84 .int L 76 1 := by
  refine ⟨enters_of Tryz.func84 (by kernel_rfl) rfl, ?_⟩
  intro w br bv bt str r cs h hlen hv ht hsz d1 d2 d3 d4
  have hbt := ht.lt
  have cv := hv.cell 0
  simp only [List.getElem?_toArray, List.getElem?_cons_zero] at cv
  have hsz' : 1 + 1 ≤ cs.size := by rw [show Shape.sz .int = 1 from rfl] at hsz; exact hsz
  have HR := Lib.hid h
  have HV := Lib.hid hv
  have HT := Lib.hid ht
  have HG := Lib.hid hg
  clear h hv ht hg hsz
  go_enter Tryz.func84, Tryz.ntmps84
  go_wp2_with fail
  refine (HG.out _ br str (some r) HR.out (lim hlen)).mono ?_
  rintro e w1 ⟨v, rfl, hty, hst, hf, htx⟩
  have hb1 := HT.out.fr hf d1
  obtain ⟨zn, rfl⟩ := ty_int hty
  rw [val_int]
  obtain ⟨y0, e0⟩ : ∃ y, w1.cell? ⟨bt, 1, none⟩ = some y := ⟨_, (hb1.cell 1).trans (Array.getElem?_eq_getElem (by omega))⟩
  have f0 := hb1.frozen 1
  have HB1 := Lib.hid hb1
  have HTY := Lib.hid hty
  have HST := Lib.hid hst
  have HF := Lib.hid hf
  have HTX := Lib.hid htx
  clear hb1 hty hst hf htx
  go_wp2
  go_end0
  exact CloPost.of HTY.out HST.out HF.out HTX.out (HB1.out.set 1 (.int .i64 zn)) ((Fr.refl _ _).wr _ _) hbt d1 d4

set_option maxHeartbeats 1000000 in
theorem clo_cert_0 (L : Nat) (hg : Reads 13 .bool (L - 1)) : CloR 12 .bool L 34 0 := by
  refine ⟨enters_of Tryz.func12 (by kernel_rfl) rfl, ?_⟩
  intro w br bv bt str r cs h hlen hv ht hsz d1 d2 d3 d4
  have hbt := ht.lt
  have cv := hv.cell 0
  simp only [List.getElem?_toArray, List.getElem?_cons_zero] at cv
  have hsz' : 0 + 1 ≤ cs.size := by rw [show Shape.sz .bool = 1 from rfl] at hsz; exact hsz
  have HR := Lib.hid h
  have HV := Lib.hid hv
  have HT := Lib.hid ht
  have HG := Lib.hid hg
  clear h hv ht hg hsz
  go_enter Tryz.func12, Tryz.ntmps12
  go_wp2_with fail
  refine (HG.out _ br str (some r) HR.out (lim hlen)).mono ?_
  rintro e w1 ⟨v, rfl, hty, hst, hf, htx⟩
  have hb1 := HT.out.fr hf d1
  obtain ⟨zb, rfl⟩ := ty_bool hty
  rw [val_bool]
  obtain ⟨y0, e0⟩ : ∃ y, w1.cell? ⟨bt, 0, none⟩ = some y := ⟨_, (hb1.cell 0).trans (Array.getElem?_eq_getElem (by omega))⟩
  have f0 := hb1.frozen 0
  have HB1 := Lib.hid hb1
  have HTY := Lib.hid hty
  have HST := Lib.hid hst
  have HF := Lib.hid hf
  have HTX := Lib.hid htx
  clear hb1 hty hst hf htx
  go_wp2
  go_end0
  exact CloPost.of HTY.out HST.out HF.out HTX.out (HB1.out.set 0 (.bool zb)) ((Fr.refl _ _).wr _ _) hbt d1 d4

set_option maxHeartbeats 1000000 in
theorem clo_cert_1 (L : Nat) (hg : Reads 15 metricS (L - 1)) : CloR 14 metricS L 34 1 := by
  refine ⟨enters_of Tryz.func14 (by kernel_rfl) rfl, ?_⟩
  intro w br bv bt str r cs h hlen hv ht hsz d1 d2 d3 d4
  have hbt := ht.lt
  have cv := hv.cell 0
  simp only [List.getElem?_toArray, List.getElem?_cons_zero] at cv
  have hsz' : 1 + 2 ≤ cs.size := by rw [show Shape.sz metricS = 2 from sz_metric] at hsz; exact hsz
  have HR := Lib.hid h
  have HV := Lib.hid hv
  have HT := Lib.hid ht
  have HG := Lib.hid hg
  clear h hv ht hg hsz
  go_enter Tryz.func14, Tryz.ntmps14
  go_wp2_with fail
  refine (HG.out _ br str (some r) HR.out (lim hlen)).mono ?_
  rintro e w1 ⟨v, rfl, hty, hst, hf, htx⟩
  have hb1 := HT.out.fr hf d1
  obtain ⟨z0A, z0k, z0c, z1A, z1k, z1c, rfl⟩ := ty_metric hty
  rw [val_metric]
  obtain ⟨y0, e0⟩ : ∃ y, w1.cell? ⟨bt, 1, none⟩ = some y := ⟨_, (hb1.cell 1).trans (Array.getElem?_eq_getElem (by omega))⟩
  have f0 := hb1.frozen 1
  obtain ⟨y1, e1⟩ : ∃ y, w1.cell? ⟨bt, 2, none⟩ = some y := ⟨_, (hb1.cell 2).trans (Array.getElem?_eq_getElem (by omega))⟩
  have f1 := hb1.frozen 2
  have HB1 := Lib.hid hb1
  have HTY := Lib.hid hty
  have HST := Lib.hid hst
  have HF := Lib.hid hf
  have HTX := Lib.hid htx
  clear hb1 hty hst hf htx
  go_wp2
  go_end0
  exact CloPost.of HTY.out HST.out HF.out HTX.out ((HB1.out.set 1 (.slice z0A z0k z0c)).set 2 (.slice z1A z1k z1c)) (((Fr.refl _ _).wr _ _).wr _ _) hbt d1 d4

set_option maxHeartbeats 1000000 in
theorem clo_cert_2 (L : Nat) (hg : Reads 18 relationS (L - 1)) : CloR 16 (.list relationS) L 34 3 := by
  refine ⟨enters_of Tryz.func16 (by kernel_rfl) rfl, ?_⟩
  intro w br bv bt str r cs h hlen hv ht hsz d1 d2 d3 d4
  have hbt := ht.lt
  have cv := hv.cell 0
  simp only [List.getElem?_toArray, List.getElem?_cons_zero] at cv
  have hsz' : 3 + 1 ≤ cs.size := by rw [show Shape.sz (.list relationS) = 1 from rfl] at hsz; exact hsz
  have HR := Lib.hid h
  have HV := Lib.hid hv
  have HT := Lib.hid ht
  have HG := Lib.hid hg
  clear h hv ht hg hsz
  go_enter Tryz.func16, Tryz.ntmps16
  go_wp2_with fail
  refine (el_relation (L - 1) _ _ _ _ br str (some r) HR.out (lim hlen) (ElR.meth (enters_of Tryz.func18 (by kernel_rfl) rfl) HG.out br str _)).mono ?_
  rintro e w1 ⟨v, rfl, hty, hst, hf, htx⟩
  have hb1 := HT.out.fr hf d1
  obtain ⟨zA, zk, zc, rfl⟩ := ty_list hty
  rw [val_list]
  obtain ⟨y0, e0⟩ : ∃ y, w1.cell? ⟨bt, 3, none⟩ = some y := ⟨_, (hb1.cell 3).trans (Array.getElem?_eq_getElem (by omega))⟩
  have f0 := hb1.frozen 3
  have HB1 := Lib.hid hb1
  have HTY := Lib.hid hty
  have HST := Lib.hid hst
  have HF := Lib.hid hf
  have HTX := Lib.hid htx
  clear hb1 hty hst hf htx
  go_wp2
  go_end0
  exact CloPost.of HTY.out HST.out HF.out HTX.out (HB1.out.set 3 (.slice zA zk zc)) ((Fr.refl _ _).wr _ _) hbt d1 d4

end Go.Proofs.YtdbglgjphfkonaaGreatDoor

/-
  The reader: fields (printed by gen_codec.py).
-/
namespace Go.Proofs.YtdbglgjphfkonaaGreatDoor
open Go.RowKit AC
set_option linter.unusedVariables false
set_option linter.unusedSimpArgs false

set_option maxHeartbeats 1000000 in
theorem clo_cert_3 (n : Nat) (L : Nat) (hg : Reads 20 (flowS n) (L - 1)) : CloR 19 (flowS n) L 34 4 := by
  refine ⟨enters_of Tryz.func19 (by kernel_rfl) rfl, ?_⟩
  intro w br bv bt str r cs h hlen hv ht hsz d1 d2 d3 d4
  have hbt := ht.lt
  have cv := hv.cell 0
  simp only [List.getElem?_toArray, List.getElem?_cons_zero] at cv
  have hsz' : 4 + 3 ≤ cs.size := by rw [show Shape.sz (flowS n) = 3 from sz_flow] at hsz; exact hsz
  have HR := Lib.hid h
  have HV := Lib.hid hv
  have HT := Lib.hid ht
  have HG := Lib.hid hg
  clear h hv ht hg hsz
  go_enter Tryz.func19, Tryz.ntmps19
  go_wp2_with fail
  refine (HG.out _ br str (some r) HR.out (lim hlen)).mono ?_
  rintro e w1 ⟨v, rfl, hty, hst, hf, htx⟩
  have hb1 := HT.out.fr hf d1
  obtain ⟨z0A, z0k, z0c, z1A, z1k, z1c, z2A, z2k, z2c, rfl⟩ := ty_flow hty
  rw [val_flow]
  obtain ⟨y0, e0⟩ : ∃ y, w1.cell? ⟨bt, 4, none⟩ = some y := ⟨_, (hb1.cell 4).trans (Array.getElem?_eq_getElem (by omega))⟩
  have f0 := hb1.frozen 4
  obtain ⟨y1, e1⟩ : ∃ y, w1.cell? ⟨bt, 5, none⟩ = some y := ⟨_, (hb1.cell 5).trans (Array.getElem?_eq_getElem (by omega))⟩
  have f1 := hb1.frozen 5
  obtain ⟨y2, e2⟩ : ∃ y, w1.cell? ⟨bt, 6, none⟩ = some y := ⟨_, (hb1.cell 6).trans (Array.getElem?_eq_getElem (by omega))⟩
  have f2 := hb1.frozen 6
  have HB1 := Lib.hid hb1
  have HTY := Lib.hid hty
  have HST := Lib.hid hst
  have HF := Lib.hid hf
  have HTX := Lib.hid htx
  clear hb1 hty hst hf htx
  go_wp2
  go_end0
  exact CloPost.of HTY.out HST.out HF.out HTX.out (((HB1.out.set 4 (.slice z0A z0k z0c)).set 5 (.slice z1A z1k z1c)).set 6 (.slice z2A z2k z2c)) ((((Fr.refl _ _).wr _ _).wr _ _).wr _ _) hbt d1 d4

set_option maxHeartbeats 1000000 in
theorem clo_cert_4 (n : Nat) (L : Nat) (hg : Reads 23 (nodeS n) (L - 1)) : CloR 21 (.list (nodeS n)) L 34 7 := by
  refine ⟨enters_of Tryz.func21 (by kernel_rfl) rfl, ?_⟩
  intro w br bv bt str r cs h hlen hv ht hsz d1 d2 d3 d4
  have hbt := ht.lt
  have cv := hv.cell 0
  simp only [List.getElem?_toArray, List.getElem?_cons_zero] at cv
  have hsz' : 7 + 1 ≤ cs.size := by rw [show Shape.sz (.list (nodeS n)) = 1 from rfl] at hsz; exact hsz
  have HR := Lib.hid h
  have HV := Lib.hid hv
  have HT := Lib.hid ht
  have HG := Lib.hid hg
  clear h hv ht hg hsz
  go_enter Tryz.func21, Tryz.ntmps21
  go_wp2_with fail
  refine (el_node n (L - 1) _ _ _ _ br str (some r) HR.out (lim hlen) (ElR.meth (enters_of Tryz.func23 (by kernel_rfl) rfl) HG.out br str _)).mono ?_
  rintro e w1 ⟨v, rfl, hty, hst, hf, htx⟩
  have hb1 := HT.out.fr hf d1
  obtain ⟨zA, zk, zc, rfl⟩ := ty_list hty
  rw [val_list]
  obtain ⟨y0, e0⟩ : ∃ y, w1.cell? ⟨bt, 7, none⟩ = some y := ⟨_, (hb1.cell 7).trans (Array.getElem?_eq_getElem (by omega))⟩
  have f0 := hb1.frozen 7
  have HB1 := Lib.hid hb1
  have HTY := Lib.hid hty
  have HST := Lib.hid hst
  have HF := Lib.hid hf
  have HTX := Lib.hid htx
  clear hb1 hty hst hf htx
  go_wp2
  go_end0
  exact CloPost.of HTY.out HST.out HF.out HTX.out (HB1.out.set 7 (.slice zA zk zc)) ((Fr.refl _ _).wr _ _) hbt d1 d4

set_option maxHeartbeats 1000000 in
theorem clo_cert_5 (L : Nat) (hg : Reads 26 claimS (L - 1)) : CloR 24 (.list claimS) L 34 8 := by
  refine ⟨enters_of Tryz.func24 (by kernel_rfl) rfl, ?_⟩
  intro w br bv bt str r cs h hlen hv ht hsz d1 d2 d3 d4
  have hbt := ht.lt
  have cv := hv.cell 0
  simp only [List.getElem?_toArray, List.getElem?_cons_zero] at cv
  have hsz' : 8 + 1 ≤ cs.size := by rw [show Shape.sz (.list claimS) = 1 from rfl] at hsz; exact hsz
  have HR := Lib.hid h
  have HV := Lib.hid hv
  have HT := Lib.hid ht
  have HG := Lib.hid hg
  clear h hv ht hg hsz
  go_enter Tryz.func24, Tryz.ntmps24
  go_wp2_with fail
  refine (el_claim (L - 1) _ _ _ _ br str (some r) HR.out (lim hlen) (ElR.meth (enters_of Tryz.func26 (by kernel_rfl) rfl) HG.out br str _)).mono ?_
  rintro e w1 ⟨v, rfl, hty, hst, hf, htx⟩
  have hb1 := HT.out.fr hf d1
  obtain ⟨zA, zk, zc, rfl⟩ := ty_list hty
  rw [val_list]
  obtain ⟨y0, e0⟩ : ∃ y, w1.cell? ⟨bt, 8, none⟩ = some y := ⟨_, (hb1.cell 8).trans (Array.getElem?_eq_getElem (by omega))⟩
  have f0 := hb1.frozen 8
  have HB1 := Lib.hid hb1
  have HTY := Lib.hid hty
  have HST := Lib.hid hst
  have HF := Lib.hid hf
  have HTX := Lib.hid htx
  clear hb1 hty hst hf htx
  go_wp2
  go_end0
  exact CloPost.of HTY.out HST.out HF.out HTX.out (HB1.out.set 8 (.slice zA zk zc)) ((Fr.refl _ _).wr _ _) hbt d1 d4

end Go.Proofs.YtdbglgjphfkonaaGreatDoor

/-
  The reader: lists of numbers (printed by gen_codec.py).
-/
namespace Go.Proofs.YtdbglgjphfkonaaGreatDoor
open Go.RowKit AC
set_option linter.unusedVariables false
set_option linter.unusedSimpArgs false

set_option maxHeartbeats 1000000 in
theorem reads_integers (L : Nat) (hg : Reads 61 .int L) : Reads 55 (.list .int) L := by
  intro w br str o hr hl
  have HR := Lib.hid hr
  have HL := Lib.hid hl
  have HG := Lib.hid hg
  clear hr hl hg
  go_enter Tryz.func55, Tryz.ntmps55
  go_wp2_with fail
  refine (el_int L _ _ _ _ br str o HR.out HL.out (ElR.meth (enters_of Tryz.func61 (by kernel_rfl) rfl) HG.out br str _)).mono ?_
  rintro e w1 ⟨v, rfl, hp⟩
  have hty := hp.1
  obtain ⟨zA, zk, zc, rfl⟩ := ty_list hty
  rw [val_list]
  have HP := Lib.hid hp
  clear hp hty
  go_wp2
  go_ret
  exact ⟨_, rfl, HP.out⟩

set_option maxHeartbeats 1000000 in
theorem reads_longs (L : Nat) (hg : Reads 129 .int L) : Reads 46 (.list .int) L := by
  intro w br str o hr hl
  have HR := Lib.hid hr
  have HL := Lib.hid hl
  have HG := Lib.hid hg
  clear hr hl hg
  go_enter Tryz.func46, Tryz.ntmps46
  go_wp2_with fail
  refine (el_int64 L _ _ _ _ br str o HR.out HL.out (ElR.meth (enters_of Tryz.func129 (by kernel_rfl) rfl) HG.out br str _)).mono ?_
  rintro e w1 ⟨v, rfl, hp⟩
  have hty := hp.1
  obtain ⟨zA, zk, zc, rfl⟩ := ty_list hty
  rw [val_list]
  have HP := Lib.hid hp
  clear hp hty
  go_wp2
  go_ret
  exact ⟨_, rfl, HP.out⟩

set_option maxHeartbeats 1000000 in
theorem reads_rats (L : Nat) (hg : Reads 139 .rat L) : Reads 77 (.list .rat) L := by
  intro w br str o hr hl
  have HR := Lib.hid hr
  have HL := Lib.hid hl
  have HG := Lib.hid hg
  clear hr hl hg
  go_enter Tryz.func77, Tryz.ntmps77
  go_wp2_with fail
  refine (el_rat L _ _ _ _ br str o HR.out HL.out (ElR.meth (enters_of Tryz.func139 (by kernel_rfl) rfl) HG.out br str _)).mono ?_
  rintro e w1 ⟨v, rfl, hp⟩
  have hty := hp.1
  obtain ⟨zA, zk, zc, rfl⟩ := ty_list hty
  rw [val_list]
  have HP := Lib.hid hp
  clear hp hty
  go_wp2
  go_ret
  exact ⟨_, rfl, HP.out⟩

end Go.Proofs.YtdbglgjphfkonaaGreatDoor

