/-
  The reader: fields (printed by gen_codec.py).
-/
import Derived.Test.YtdbglgjphfkonaaGreatDoorHCRa
import Derived.Test.YtdbglgjphfkonaaGreatDoorHCE1
import Derived.Test.YtdbglgjphfkonaaGreatDoorHCE2
import Derived.Test.YtdbglgjphfkonaaGreatDoorHCE3
import Derived.Test.YtdbglgjphfkonaaGreatDoorHCE4
import Derived.Test.YtdbglgjphfkonaaGreatDoorHCE5
namespace Go.Proofs.YtdbglgjphfkonaaGreatDoor
open Go.RowKit AC
set_option linter.unusedVariables false
set_option linter.unusedSimpArgs false

set_option maxHeartbeats 1000000 in
theorem clo_linTerm_0 (L : Nat) (hg : Reads 61 .int (L - 1)) : CloR 195 .int L 164 0 := by
  refine ⟨enters_of Tryz.func195 (by kernel_rfl) rfl, ?_⟩
  intro w br bv bt str r cs h hlen hv ht hsz d1 d2 d3 d4
  have hbt := ht.lt
  have cv := hv.cell 0
  simp only [List.getElem?_toArray, List.getElem?_cons_zero] at cv
  have hsz' : 0 + 1 ≤ cs.size := by rw [show Shape.sz .int = 1 from rfl] at hsz; exact hsz
  have HR := Lib.hid h
  have HV := Lib.hid hv
  have HT := Lib.hid ht
  have HG := Lib.hid hg
  clear h hv ht hg hsz
  go_enter Tryz.func195, Tryz.ntmps195
  go_wp2_with fail
  refine (HG.out _ br str (some r) HR.out (lim hlen)).mono ?_
  rintro e w1 ⟨v, rfl, hty, hst, hf, htx⟩
  have hb1 := HT.out.fr hf d1
  obtain ⟨zn, rfl⟩ := ty_int hty
  rw [val_int]
  obtain ⟨y0, e0⟩ : ∃ y, w1.cell? ⟨bt, 0, none⟩ = some y := ⟨_, (hb1.cell 0).trans (Array.getElem?_eq_getElem (by omega))⟩
  have f0 := hb1.frozen 0
  have HB1 := Lib.hid hb1
  have HTY := Lib.hid hty
  have HST := Lib.hid hst
  have HF := Lib.hid hf
  have HTX := Lib.hid htx
  clear hb1 hty hst hf htx
  go_wp2
  go_end0
  exact CloPost.of HTY.out HST.out HF.out HTX.out (HB1.out.set 0 (.int .i64 zn)) ((Fr.refl _ _).wr _ _) hbt d1 d4

set_option maxHeartbeats 1000000 in
theorem clo_linTerm_1 (L : Nat) (hg : Reads 129 .int (L - 1)) : CloR 196 .int L 164 1 := by
  refine ⟨enters_of Tryz.func196 (by kernel_rfl) rfl, ?_⟩
  intro w br bv bt str r cs h hlen hv ht hsz d1 d2 d3 d4
  have hbt := ht.lt
  have cv := hv.cell 0
  simp only [List.getElem?_toArray, List.getElem?_cons_zero] at cv
  have hsz' : 1 + 1 ≤ cs.size := by rw [show Shape.sz .int = 1 from rfl] at hsz; exact hsz
  have HR := Lib.hid h
  have HV := Lib.hid hv
  have HT := Lib.hid ht
  have HG := Lib.hid hg
  clear h hv ht hg hsz
  go_enter Tryz.func196, Tryz.ntmps196
  go_wp2_with fail
  refine (HG.out _ br str (some r) HR.out (lim hlen)).mono ?_
  rintro e w1 ⟨v, rfl, hty, hst, hf, htx⟩
  have hb1 := HT.out.fr hf d1
  obtain ⟨zn, rfl⟩ := ty_int hty
  rw [val_int]
  obtain ⟨y0, e0⟩ : ∃ y, w1.cell? ⟨bt, 1, none⟩ = some y := ⟨_, (hb1.cell 1).trans (Array.getElem?_eq_getElem (by omega))⟩
  have f0 := hb1.frozen 1
  have HB1 := Lib.hid hb1
  have HTY := Lib.hid hty
  have HST := Lib.hid hst
  have HF := Lib.hid hf
  have HTX := Lib.hid htx
  clear hb1 hty hst hf htx
  go_wp2
  go_end0
  exact CloPost.of HTY.out HST.out HF.out HTX.out (HB1.out.set 1 (.int .i64 zn)) ((Fr.refl _ _).wr _ _) hbt d1 d4

set_option maxHeartbeats 1000000 in
theorem clo_lin_0 (L : Nat) (hg : Reads 129 .int (L - 1)) : CloR 130 .int L 95 0 := by
  refine ⟨enters_of Tryz.func130 (by kernel_rfl) rfl, ?_⟩
  intro w br bv bt str r cs h hlen hv ht hsz d1 d2 d3 d4
  have hbt := ht.lt
  have cv := hv.cell 0
  simp only [List.getElem?_toArray, List.getElem?_cons_zero] at cv
  have hsz' : 0 + 1 ≤ cs.size := by rw [show Shape.sz .int = 1 from rfl] at hsz; exact hsz
  have HR := Lib.hid h
  have HV := Lib.hid hv
  have HT := Lib.hid ht
  have HG := Lib.hid hg
  clear h hv ht hg hsz
  go_enter Tryz.func130, Tryz.ntmps130
  go_wp2_with fail
  refine (HG.out _ br str (some r) HR.out (lim hlen)).mono ?_
  rintro e w1 ⟨v, rfl, hty, hst, hf, htx⟩
  have hb1 := HT.out.fr hf d1
  obtain ⟨zn, rfl⟩ := ty_int hty
  rw [val_int]
  obtain ⟨y0, e0⟩ : ∃ y, w1.cell? ⟨bt, 0, none⟩ = some y := ⟨_, (hb1.cell 0).trans (Array.getElem?_eq_getElem (by omega))⟩
  have f0 := hb1.frozen 0
  have HB1 := Lib.hid hb1
  have HTY := Lib.hid hty
  have HST := Lib.hid hst
  have HF := Lib.hid hf
  have HTX := Lib.hid htx
  clear hb1 hty hst hf htx
  go_wp2
  go_end0
  exact CloPost.of HTY.out HST.out HF.out HTX.out (HB1.out.set 0 (.int .i64 zn)) ((Fr.refl _ _).wr _ _) hbt d1 d4

set_option maxHeartbeats 1000000 in
theorem clo_lin_1 (L : Nat) (hg : Reads 133 linTermS (L - 1)) : CloR 131 (.list linTermS) L 95 1 := by
  refine ⟨enters_of Tryz.func131 (by kernel_rfl) rfl, ?_⟩
  intro w br bv bt str r cs h hlen hv ht hsz d1 d2 d3 d4
  have hbt := ht.lt
  have cv := hv.cell 0
  simp only [List.getElem?_toArray, List.getElem?_cons_zero] at cv
  have hsz' : 1 + 1 ≤ cs.size := by rw [show Shape.sz (.list linTermS) = 1 from rfl] at hsz; exact hsz
  have HR := Lib.hid h
  have HV := Lib.hid hv
  have HT := Lib.hid ht
  have HG := Lib.hid hg
  clear h hv ht hg hsz
  go_enter Tryz.func131, Tryz.ntmps131
  go_wp2_with fail
  refine (el_linTerm (L - 1) _ _ _ _ br str (some r) HR.out (lim hlen) (ElR.meth (enters_of Tryz.func133 (by kernel_rfl) rfl) HG.out br str _)).mono ?_
  rintro e w1 ⟨v, rfl, hty, hst, hf, htx⟩
  have hb1 := HT.out.fr hf d1
  obtain ⟨zA, zk, zc, rfl⟩ := ty_list hty
  rw [val_list]
  obtain ⟨y0, e0⟩ : ∃ y, w1.cell? ⟨bt, 1, none⟩ = some y := ⟨_, (hb1.cell 1).trans (Array.getElem?_eq_getElem (by omega))⟩
  have f0 := hb1.frozen 1
  have HB1 := Lib.hid hb1
  have HTY := Lib.hid hty
  have HST := Lib.hid hst
  have HF := Lib.hid hf
  have HTX := Lib.hid htx
  clear hb1 hty hst hf htx
  go_wp2
  go_end0
  exact CloPost.of HTY.out HST.out HF.out HTX.out (HB1.out.set 1 (.slice zA zk zc)) ((Fr.refl _ _).wr _ _) hbt d1 d4

set_option maxHeartbeats 1000000 in
theorem clo_relation_0 (L : Nat) (hg : Reads 51 linS (L - 1)) : CloR 49 (.list linS) L 61 0 := by
  refine ⟨enters_of Tryz.func49 (by kernel_rfl) rfl, ?_⟩
  intro w br bv bt str r cs h hlen hv ht hsz d1 d2 d3 d4
  have hbt := ht.lt
  have cv := hv.cell 0
  simp only [List.getElem?_toArray, List.getElem?_cons_zero] at cv
  have hsz' : 0 + 1 ≤ cs.size := by rw [show Shape.sz (.list linS) = 1 from rfl] at hsz; exact hsz
  have HR := Lib.hid h
  have HV := Lib.hid hv
  have HT := Lib.hid ht
  have HG := Lib.hid hg
  clear h hv ht hg hsz
  go_enter Tryz.func49, Tryz.ntmps49
  go_wp2_with fail
  refine (el_lin (L - 1) _ _ _ _ br str (some r) HR.out (lim hlen) (ElR.meth (enters_of Tryz.func51 (by kernel_rfl) rfl) HG.out br str _)).mono ?_
  rintro e w1 ⟨v, rfl, hty, hst, hf, htx⟩
  have hb1 := HT.out.fr hf d1
  obtain ⟨zA, zk, zc, rfl⟩ := ty_list hty
  rw [val_list]
  obtain ⟨y0, e0⟩ : ∃ y, w1.cell? ⟨bt, 0, none⟩ = some y := ⟨_, (hb1.cell 0).trans (Array.getElem?_eq_getElem (by omega))⟩
  have f0 := hb1.frozen 0
  have HB1 := Lib.hid hb1
  have HTY := Lib.hid hty
  have HST := Lib.hid hst
  have HF := Lib.hid hf
  have HTX := Lib.hid htx
  clear hb1 hty hst hf htx
  go_wp2
  go_end0
  exact CloPost.of HTY.out HST.out HF.out HTX.out (HB1.out.set 0 (.slice zA zk zc)) ((Fr.refl _ _).wr _ _) hbt d1 d4

set_option maxHeartbeats 1000000 in
theorem clo_relation_1 (L : Nat) (hg : Reads 51 linS (L - 1)) : CloR 52 (.list linS) L 61 1 := by
  refine ⟨enters_of Tryz.func52 (by kernel_rfl) rfl, ?_⟩
  intro w br bv bt str r cs h hlen hv ht hsz d1 d2 d3 d4
  have hbt := ht.lt
  have cv := hv.cell 0
  simp only [List.getElem?_toArray, List.getElem?_cons_zero] at cv
  have hsz' : 1 + 1 ≤ cs.size := by rw [show Shape.sz (.list linS) = 1 from rfl] at hsz; exact hsz
  have HR := Lib.hid h
  have HV := Lib.hid hv
  have HT := Lib.hid ht
  have HG := Lib.hid hg
  clear h hv ht hg hsz
  go_enter Tryz.func52, Tryz.ntmps52
  go_wp2_with fail
  refine (el_lin (L - 1) _ _ _ _ br str (some r) HR.out (lim hlen) (ElR.meth (enters_of Tryz.func51 (by kernel_rfl) rfl) HG.out br str _)).mono ?_
  rintro e w1 ⟨v, rfl, hty, hst, hf, htx⟩
  have hb1 := HT.out.fr hf d1
  obtain ⟨zA, zk, zc, rfl⟩ := ty_list hty
  rw [val_list]
  obtain ⟨y0, e0⟩ : ∃ y, w1.cell? ⟨bt, 1, none⟩ = some y := ⟨_, (hb1.cell 1).trans (Array.getElem?_eq_getElem (by omega))⟩
  have f0 := hb1.frozen 1
  have HB1 := Lib.hid hb1
  have HTY := Lib.hid hty
  have HST := Lib.hid hst
  have HF := Lib.hid hf
  have HTX := Lib.hid htx
  clear hb1 hty hst hf htx
  go_wp2
  go_end0
  exact CloPost.of HTY.out HST.out HF.out HTX.out (HB1.out.set 1 (.slice zA zk zc)) ((Fr.refl _ _).wr _ _) hbt d1 d4

set_option maxHeartbeats 1000000 in
theorem clo_metric_0 (L : Nat) (hg : Reads 46 (.list .int) (L - 1)) : CloR 45 (.list .int) L 25 0 := by
  refine ⟨enters_of Tryz.func45 (by kernel_rfl) rfl, ?_⟩
  intro w br bv bt str r cs h hlen hv ht hsz d1 d2 d3 d4
  have hbt := ht.lt
  have cv := hv.cell 0
  simp only [List.getElem?_toArray, List.getElem?_cons_zero] at cv
  have hsz' : 0 + 1 ≤ cs.size := by rw [show Shape.sz (.list .int) = 1 from rfl] at hsz; exact hsz
  have HR := Lib.hid h
  have HV := Lib.hid hv
  have HT := Lib.hid ht
  have HG := Lib.hid hg
  clear h hv ht hg hsz
  go_enter Tryz.func45, Tryz.ntmps45
  go_wp2_with fail
  refine (HG.out _ br str (some r) HR.out (lim hlen)).mono ?_
  rintro e w1 ⟨v, rfl, hty, hst, hf, htx⟩
  have hb1 := HT.out.fr hf d1
  obtain ⟨zA, zk, zc, rfl⟩ := ty_list hty
  rw [val_list]
  obtain ⟨y0, e0⟩ : ∃ y, w1.cell? ⟨bt, 0, none⟩ = some y := ⟨_, (hb1.cell 0).trans (Array.getElem?_eq_getElem (by omega))⟩
  have f0 := hb1.frozen 0
  have HB1 := Lib.hid hb1
  have HTY := Lib.hid hty
  have HST := Lib.hid hst
  have HF := Lib.hid hf
  have HTX := Lib.hid htx
  clear hb1 hty hst hf htx
  go_wp2
  go_end0
  exact CloPost.of HTY.out HST.out HF.out HTX.out (HB1.out.set 0 (.slice zA zk zc)) ((Fr.refl _ _).wr _ _) hbt d1 d4

set_option maxHeartbeats 1000000 in
theorem clo_metric_1 (L : Nat) (hg : Reads 46 (.list .int) (L - 1)) : CloR 47 (.list .int) L 25 1 := by
  refine ⟨enters_of Tryz.func47 (by kernel_rfl) rfl, ?_⟩
  intro w br bv bt str r cs h hlen hv ht hsz d1 d2 d3 d4
  have hbt := ht.lt
  have cv := hv.cell 0
  simp only [List.getElem?_toArray, List.getElem?_cons_zero] at cv
  have hsz' : 1 + 1 ≤ cs.size := by rw [show Shape.sz (.list .int) = 1 from rfl] at hsz; exact hsz
  have HR := Lib.hid h
  have HV := Lib.hid hv
  have HT := Lib.hid ht
  have HG := Lib.hid hg
  clear h hv ht hg hsz
  go_enter Tryz.func47, Tryz.ntmps47
  go_wp2_with fail
  refine (HG.out _ br str (some r) HR.out (lim hlen)).mono ?_
  rintro e w1 ⟨v, rfl, hty, hst, hf, htx⟩
  have hb1 := HT.out.fr hf d1
  obtain ⟨zA, zk, zc, rfl⟩ := ty_list hty
  rw [val_list]
  obtain ⟨y0, e0⟩ : ∃ y, w1.cell? ⟨bt, 1, none⟩ = some y := ⟨_, (hb1.cell 1).trans (Array.getElem?_eq_getElem (by omega))⟩
  have f0 := hb1.frozen 1
  have HB1 := Lib.hid hb1
  have HTY := Lib.hid hty
  have HST := Lib.hid hst
  have HF := Lib.hid hf
  have HTX := Lib.hid htx
  clear hb1 hty hst hf htx
  go_wp2
  go_end0
  exact CloPost.of HTY.out HST.out HF.out HTX.out (HB1.out.set 1 (.slice zA zk zc)) ((Fr.refl _ _).wr _ _) hbt d1 d4

set_option maxHeartbeats 1000000 in
theorem clo_typ_0 (L : Nat) (hg : Reads 61 .int (L - 1)) : CloR 197 .int L 102 0 := by
  refine ⟨enters_of Tryz.func197 (by kernel_rfl) rfl, ?_⟩
  intro w br bv bt str r cs h hlen hv ht hsz d1 d2 d3 d4
  have hbt := ht.lt
  have cv := hv.cell 0
  simp only [List.getElem?_toArray, List.getElem?_cons_zero] at cv
  have hsz' : 0 + 1 ≤ cs.size := by rw [show Shape.sz .int = 1 from rfl] at hsz; exact hsz
  have HR := Lib.hid h
  have HV := Lib.hid hv
  have HT := Lib.hid ht
  have HG := Lib.hid hg
  clear h hv ht hg hsz
  go_enter Tryz.func197, Tryz.ntmps197
  go_wp2_with fail
  refine (HG.out _ br str (some r) HR.out (lim hlen)).mono ?_
  rintro e w1 ⟨v, rfl, hty, hst, hf, htx⟩
  have hb1 := HT.out.fr hf d1
  obtain ⟨zn, rfl⟩ := ty_int hty
  rw [val_int]
  obtain ⟨y0, e0⟩ : ∃ y, w1.cell? ⟨bt, 0, none⟩ = some y := ⟨_, (hb1.cell 0).trans (Array.getElem?_eq_getElem (by omega))⟩
  have f0 := hb1.frozen 0
  have HB1 := Lib.hid hb1
  have HTY := Lib.hid hty
  have HST := Lib.hid hst
  have HF := Lib.hid hf
  have HTX := Lib.hid htx
  clear hb1 hty hst hf htx
  go_wp2
  go_end0
  exact CloPost.of HTY.out HST.out HF.out HTX.out (HB1.out.set 0 (.int .i64 zn)) ((Fr.refl _ _).wr _ _) hbt d1 d4

set_option maxHeartbeats 1000000 in
theorem clo_typ_1 (L : Nat) (hg : Reads 61 .int (L - 1)) : CloR 198 .int L 102 1 := by
  refine ⟨enters_of Tryz.func198 (by kernel_rfl) rfl, ?_⟩
  intro w br bv bt str r cs h hlen hv ht hsz d1 d2 d3 d4
  have hbt := ht.lt
  have cv := hv.cell 0
  simp only [List.getElem?_toArray, List.getElem?_cons_zero] at cv
  have hsz' : 1 + 1 ≤ cs.size := by rw [show Shape.sz .int = 1 from rfl] at hsz; exact hsz
  have HR := Lib.hid h
  have HV := Lib.hid hv
  have HT := Lib.hid ht
  have HG := Lib.hid hg
  clear h hv ht hg hsz
  go_enter Tryz.func198, Tryz.ntmps198
  go_wp2_with fail
  refine (HG.out _ br str (some r) HR.out (lim hlen)).mono ?_
  rintro e w1 ⟨v, rfl, hty, hst, hf, htx⟩
  have hb1 := HT.out.fr hf d1
  obtain ⟨zn, rfl⟩ := ty_int hty
  rw [val_int]
  obtain ⟨y0, e0⟩ : ∃ y, w1.cell? ⟨bt, 1, none⟩ = some y := ⟨_, (hb1.cell 1).trans (Array.getElem?_eq_getElem (by omega))⟩
  have f0 := hb1.frozen 1
  have HB1 := Lib.hid hb1
  have HTY := Lib.hid hty
  have HST := Lib.hid hst
  have HF := Lib.hid hf
  have HTX := Lib.hid htx
  clear hb1 hty hst hf htx
  go_wp2
  go_end0
  exact CloPost.of HTY.out HST.out HF.out HTX.out (HB1.out.set 1 (.int .i64 zn)) ((Fr.refl _ _).wr _ _) hbt d1 d4

set_option maxHeartbeats 1000000 in
theorem clo_typ_2 (n : Nat) (L : Nat) (hg : Reads 136 (typS n) (L - 1)) : CloR 199 (.list (typS n)) L 102 2 := by
  refine ⟨enters_of Tryz.func199 (by kernel_rfl) rfl, ?_⟩
  intro w br bv bt str r cs h hlen hv ht hsz d1 d2 d3 d4
  have hbt := ht.lt
  have cv := hv.cell 0
  simp only [List.getElem?_toArray, List.getElem?_cons_zero] at cv
  have hsz' : 2 + 1 ≤ cs.size := by rw [show Shape.sz (.list (typS n)) = 1 from rfl] at hsz; exact hsz
  have HR := Lib.hid h
  have HV := Lib.hid hv
  have HT := Lib.hid ht
  have HG := Lib.hid hg
  clear h hv ht hg hsz
  go_enter Tryz.func199, Tryz.ntmps199
  go_wp2_with fail
  refine (el_typ n (L - 1) _ _ _ _ br str (some r) HR.out (lim hlen) (ElR.meth (enters_of Tryz.func136 (by kernel_rfl) rfl) HG.out br str _)).mono ?_
  rintro e w1 ⟨v, rfl, hty, hst, hf, htx⟩
  have hb1 := HT.out.fr hf d1
  obtain ⟨zA, zk, zc, rfl⟩ := ty_list hty
  rw [val_list]
  obtain ⟨y0, e0⟩ : ∃ y, w1.cell? ⟨bt, 2, none⟩ = some y := ⟨_, (hb1.cell 2).trans (Array.getElem?_eq_getElem (by omega))⟩
  have f0 := hb1.frozen 2
  have HB1 := Lib.hid hb1
  have HTY := Lib.hid hty
  have HST := Lib.hid hst
  have HF := Lib.hid hf
  have HTX := Lib.hid htx
  clear hb1 hty hst hf htx
  go_wp2
  go_end0
  exact CloPost.of HTY.out HST.out HF.out HTX.out (HB1.out.set 2 (.slice zA zk zc)) ((Fr.refl _ _).wr _ _) hbt d1 d4

set_option maxHeartbeats 1000000 in
theorem clo_store_0 (n : Nat) (L : Nat) (hg : Reads 136 (typS n) (L - 1)) : CloR 135 (typS n) L 104 0 := by
  refine ⟨enters_of Tryz.func135 (by kernel_rfl) rfl, ?_⟩
  intro w br bv bt str r cs h hlen hv ht hsz d1 d2 d3 d4
  have hbt := ht.lt
  have cv := hv.cell 0
  simp only [List.getElem?_toArray, List.getElem?_cons_zero] at cv
  have hsz' : 0 + 3 ≤ cs.size := by rw [show Shape.sz (typS n) = 3 from sz_typ] at hsz; exact hsz
  have HR := Lib.hid h
  have HV := Lib.hid hv
  have HT := Lib.hid ht
  have HG := Lib.hid hg
  clear h hv ht hg hsz
  go_enter Tryz.func135, Tryz.ntmps135
  go_wp2_with fail
  refine (HG.out _ br str (some r) HR.out (lim hlen)).mono ?_
  rintro e w1 ⟨v, rfl, hty, hst, hf, htx⟩
  have hb1 := HT.out.fr hf d1
  obtain ⟨z0n, z1n, z2A, z2k, z2c, rfl⟩ := ty_typ hty
  rw [val_typ]
  obtain ⟨y0, e0⟩ : ∃ y, w1.cell? ⟨bt, 0, none⟩ = some y := ⟨_, (hb1.cell 0).trans (Array.getElem?_eq_getElem (by omega))⟩
  have f0 := hb1.frozen 0
  obtain ⟨y1, e1⟩ : ∃ y, w1.cell? ⟨bt, 1, none⟩ = some y := ⟨_, (hb1.cell 1).trans (Array.getElem?_eq_getElem (by omega))⟩
  have f1 := hb1.frozen 1
  obtain ⟨y2, e2⟩ : ∃ y, w1.cell? ⟨bt, 2, none⟩ = some y := ⟨_, (hb1.cell 2).trans (Array.getElem?_eq_getElem (by omega))⟩
  have f2 := hb1.frozen 2
  have HB1 := Lib.hid hb1
  have HTY := Lib.hid hty
  have HST := Lib.hid hst
  have HF := Lib.hid hf
  have HTX := Lib.hid htx
  clear hb1 hty hst hf htx
  go_wp2
  go_end0
  exact CloPost.of HTY.out HST.out HF.out HTX.out (((HB1.out.set 0 (.int .i64 z0n)).set 1 (.int .i64 z1n)).set 2 (.slice z2A z2k z2c)) ((((Fr.refl _ _).wr _ _).wr _ _).wr _ _) hbt d1 d4

end Go.Proofs.YtdbglgjphfkonaaGreatDoor

/-
  The reader: fields (printed by gen_codec.py).
-/
namespace Go.Proofs.YtdbglgjphfkonaaGreatDoor
open Go.RowKit AC
set_option linter.unusedVariables false
set_option linter.unusedSimpArgs false

set_option maxHeartbeats 1000000 in
theorem clo_store_1 (L : Nat) (hg : Reads 55 (.list .int) (L - 1)) : CloR 137 (.list .int) L 104 3 := by
  refine ⟨enters_of Tryz.func137 (by kernel_rfl) rfl, ?_⟩
  intro w br bv bt str r cs h hlen hv ht hsz d1 d2 d3 d4
  have hbt := ht.lt
  have cv := hv.cell 0
  simp only [List.getElem?_toArray, List.getElem?_cons_zero] at cv
  have hsz' : 3 + 1 ≤ cs.size := by rw [show Shape.sz (.list .int) = 1 from rfl] at hsz; exact hsz
  have HR := Lib.hid h
  have HV := Lib.hid hv
  have HT := Lib.hid ht
  have HG := Lib.hid hg
  clear h hv ht hg hsz
  go_enter Tryz.func137, Tryz.ntmps137
  go_wp2_with fail
  refine (HG.out _ br str (some r) HR.out (lim hlen)).mono ?_
  rintro e w1 ⟨v, rfl, hty, hst, hf, htx⟩
  have hb1 := HT.out.fr hf d1
  obtain ⟨zA, zk, zc, rfl⟩ := ty_list hty
  rw [val_list]
  obtain ⟨y0, e0⟩ : ∃ y, w1.cell? ⟨bt, 3, none⟩ = some y := ⟨_, (hb1.cell 3).trans (Array.getElem?_eq_getElem (by omega))⟩
  have f0 := hb1.frozen 3
  have HB1 := Lib.hid hb1
  have HTY := Lib.hid hty
  have HST := Lib.hid hst
  have HF := Lib.hid hf
  have HTX := Lib.hid htx
  clear hb1 hty hst hf htx
  go_wp2
  go_end0
  exact CloPost.of HTY.out HST.out HF.out HTX.out (HB1.out.set 3 (.slice zA zk zc)) ((Fr.refl _ _).wr _ _) hbt d1 d4

set_option maxHeartbeats 1000000 in
theorem clo_flow_0 (L : Nat) (hg : Reads 55 (.list .int) (L - 1)) : CloR 53 (.list (.list .int)) L 30 0 := by
  refine ⟨enters_of Tryz.func53 (by kernel_rfl) rfl, ?_⟩
  intro w br bv bt str r cs h hlen hv ht hsz d1 d2 d3 d4
  have hbt := ht.lt
  have cv := hv.cell 0
  simp only [List.getElem?_toArray, List.getElem?_cons_zero] at cv
  have hsz' : 0 + 1 ≤ cs.size := by rw [show Shape.sz (.list (.list .int)) = 1 from rfl] at hsz; exact hsz
  have HR := Lib.hid h
  have HV := Lib.hid hv
  have HT := Lib.hid ht
  have HG := Lib.hid hg
  clear h hv ht hg hsz
  go_enter Tryz.func53, Tryz.ntmps53
  go_wp2_with fail
  refine (el_l_int (L - 1) _ _ _ _ br str (some r) HR.out (lim hlen) (ElR.meth (enters_of Tryz.func55 (by kernel_rfl) rfl) HG.out br str _)).mono ?_
  rintro e w1 ⟨v, rfl, hty, hst, hf, htx⟩
  have hb1 := HT.out.fr hf d1
  obtain ⟨zA, zk, zc, rfl⟩ := ty_list hty
  rw [val_list]
  obtain ⟨y0, e0⟩ : ∃ y, w1.cell? ⟨bt, 0, none⟩ = some y := ⟨_, (hb1.cell 0).trans (Array.getElem?_eq_getElem (by omega))⟩
  have f0 := hb1.frozen 0
  have HB1 := Lib.hid hb1
  have HTY := Lib.hid hty
  have HST := Lib.hid hst
  have HF := Lib.hid hf
  have HTX := Lib.hid htx
  clear hb1 hty hst hf htx
  go_wp2
  go_end0
  exact CloPost.of HTY.out HST.out HF.out HTX.out (HB1.out.set 0 (.slice zA zk zc)) ((Fr.refl _ _).wr _ _) hbt d1 d4

set_option maxHeartbeats 1000000 in
theorem clo_flow_1 (L : Nat) (hg : Reads 55 (.list .int) (L - 1)) : CloR 56 (.list (.list .int)) L 30 1 := by
  refine ⟨enters_of Tryz.func56 (by kernel_rfl) rfl, ?_⟩
  intro w br bv bt str r cs h hlen hv ht hsz d1 d2 d3 d4
  have hbt := ht.lt
  have cv := hv.cell 0
  simp only [List.getElem?_toArray, List.getElem?_cons_zero] at cv
  have hsz' : 1 + 1 ≤ cs.size := by rw [show Shape.sz (.list (.list .int)) = 1 from rfl] at hsz; exact hsz
  have HR := Lib.hid h
  have HV := Lib.hid hv
  have HT := Lib.hid ht
  have HG := Lib.hid hg
  clear h hv ht hg hsz
  go_enter Tryz.func56, Tryz.ntmps56
  go_wp2_with fail
  refine (el_l_int (L - 1) _ _ _ _ br str (some r) HR.out (lim hlen) (ElR.meth (enters_of Tryz.func55 (by kernel_rfl) rfl) HG.out br str _)).mono ?_
  rintro e w1 ⟨v, rfl, hty, hst, hf, htx⟩
  have hb1 := HT.out.fr hf d1
  obtain ⟨zA, zk, zc, rfl⟩ := ty_list hty
  rw [val_list]
  obtain ⟨y0, e0⟩ : ∃ y, w1.cell? ⟨bt, 1, none⟩ = some y := ⟨_, (hb1.cell 1).trans (Array.getElem?_eq_getElem (by omega))⟩
  have f0 := hb1.frozen 1
  have HB1 := Lib.hid hb1
  have HTY := Lib.hid hty
  have HST := Lib.hid hst
  have HF := Lib.hid hf
  have HTX := Lib.hid htx
  clear hb1 hty hst hf htx
  go_wp2
  go_end0
  exact CloPost.of HTY.out HST.out HF.out HTX.out (HB1.out.set 1 (.slice zA zk zc)) ((Fr.refl _ _).wr _ _) hbt d1 d4

set_option maxHeartbeats 1000000 in
theorem clo_flow_2 (n : Nat) (L : Nat) (hg : Reads 59 (storeS n) (L - 1)) : CloR 57 (.list (storeS n)) L 30 2 := by
  refine ⟨enters_of Tryz.func57 (by kernel_rfl) rfl, ?_⟩
  intro w br bv bt str r cs h hlen hv ht hsz d1 d2 d3 d4
  have hbt := ht.lt
  have cv := hv.cell 0
  simp only [List.getElem?_toArray, List.getElem?_cons_zero] at cv
  have hsz' : 2 + 1 ≤ cs.size := by rw [show Shape.sz (.list (storeS n)) = 1 from rfl] at hsz; exact hsz
  have HR := Lib.hid h
  have HV := Lib.hid hv
  have HT := Lib.hid ht
  have HG := Lib.hid hg
  clear h hv ht hg hsz
  go_enter Tryz.func57, Tryz.ntmps57
  go_wp2_with fail
  refine (el_store n (L - 1) _ _ _ _ br str (some r) HR.out (lim hlen) (ElR.meth (enters_of Tryz.func59 (by kernel_rfl) rfl) HG.out br str _)).mono ?_
  rintro e w1 ⟨v, rfl, hty, hst, hf, htx⟩
  have hb1 := HT.out.fr hf d1
  obtain ⟨zA, zk, zc, rfl⟩ := ty_list hty
  rw [val_list]
  obtain ⟨y0, e0⟩ : ∃ y, w1.cell? ⟨bt, 2, none⟩ = some y := ⟨_, (hb1.cell 2).trans (Array.getElem?_eq_getElem (by omega))⟩
  have f0 := hb1.frozen 2
  have HB1 := Lib.hid hb1
  have HTY := Lib.hid hty
  have HST := Lib.hid hst
  have HF := Lib.hid hf
  have HTX := Lib.hid htx
  clear hb1 hty hst hf htx
  go_wp2
  go_end0
  exact CloPost.of HTY.out HST.out HF.out HTX.out (HB1.out.set 2 (.slice zA zk zc)) ((Fr.refl _ _).wr _ _) hbt d1 d4

set_option maxHeartbeats 1000000 in
theorem clo_index_0 (L : Nat) (hg : Reads 61 .int (L - 1)) : CloR 281 .int L 209 0 := by
  refine ⟨enters_of Tryz.func281 (by kernel_rfl) rfl, ?_⟩
  intro w br bv bt str r cs h hlen hv ht hsz d1 d2 d3 d4
  have hbt := ht.lt
  have cv := hv.cell 0
  simp only [List.getElem?_toArray, List.getElem?_cons_zero] at cv
  have hsz' : 0 + 1 ≤ cs.size := by rw [show Shape.sz .int = 1 from rfl] at hsz; exact hsz
  have HR := Lib.hid h
  have HV := Lib.hid hv
  have HT := Lib.hid ht
  have HG := Lib.hid hg
  clear h hv ht hg hsz
  go_enter Tryz.func281, Tryz.ntmps281
  go_wp2_with fail
  refine (HG.out _ br str (some r) HR.out (lim hlen)).mono ?_
  rintro e w1 ⟨v, rfl, hty, hst, hf, htx⟩
  have hb1 := HT.out.fr hf d1
  obtain ⟨zn, rfl⟩ := ty_int hty
  rw [val_int]
  obtain ⟨y0, e0⟩ : ∃ y, w1.cell? ⟨bt, 0, none⟩ = some y := ⟨_, (hb1.cell 0).trans (Array.getElem?_eq_getElem (by omega))⟩
  have f0 := hb1.frozen 0
  have HB1 := Lib.hid hb1
  have HTY := Lib.hid hty
  have HST := Lib.hid hst
  have HF := Lib.hid hf
  have HTX := Lib.hid htx
  clear hb1 hty hst hf htx
  go_wp2
  go_end0
  exact CloPost.of HTY.out HST.out HF.out HTX.out (HB1.out.set 0 (.int .i64 zn)) ((Fr.refl _ _).wr _ _) hbt d1 d4

set_option maxHeartbeats 1000000 in
theorem clo_index_1 (n : Nat) (L : Nat) (hg : Reads 254 (indexS n) (L - 1)) : CloR 282 (.list (indexS n)) L 209 1 := by
  refine ⟨enters_of Tryz.func282 (by kernel_rfl) rfl, ?_⟩
  intro w br bv bt str r cs h hlen hv ht hsz d1 d2 d3 d4
  have hbt := ht.lt
  have cv := hv.cell 0
  simp only [List.getElem?_toArray, List.getElem?_cons_zero] at cv
  have hsz' : 1 + 1 ≤ cs.size := by rw [show Shape.sz (.list (indexS n)) = 1 from rfl] at hsz; exact hsz
  have HR := Lib.hid h
  have HV := Lib.hid hv
  have HT := Lib.hid ht
  have HG := Lib.hid hg
  clear h hv ht hg hsz
  go_enter Tryz.func282, Tryz.ntmps282
  go_wp2_with fail
  refine (el_index n (L - 1) _ _ _ _ br str (some r) HR.out (lim hlen) (ElR.meth (enters_of Tryz.func254 (by kernel_rfl) rfl) HG.out br str _)).mono ?_
  rintro e w1 ⟨v, rfl, hty, hst, hf, htx⟩
  have hb1 := HT.out.fr hf d1
  obtain ⟨zA, zk, zc, rfl⟩ := ty_list hty
  rw [val_list]
  obtain ⟨y0, e0⟩ : ∃ y, w1.cell? ⟨bt, 1, none⟩ = some y := ⟨_, (hb1.cell 1).trans (Array.getElem?_eq_getElem (by omega))⟩
  have f0 := hb1.frozen 1
  have HB1 := Lib.hid hb1
  have HTY := Lib.hid hty
  have HST := Lib.hid hst
  have HF := Lib.hid hf
  have HTX := Lib.hid htx
  clear hb1 hty hst hf htx
  go_wp2
  go_end0
  exact CloPost.of HTY.out HST.out HF.out HTX.out (HB1.out.set 1 (.slice zA zk zc)) ((Fr.refl _ _).wr _ _) hbt d1 d4

set_option maxHeartbeats 1000000 in
theorem clo_factor_0 (L : Nat) (hg : Reads 61 .int (L - 1)) : CloR 252 .int L 211 0 := by
  refine ⟨enters_of Tryz.func252 (by kernel_rfl) rfl, ?_⟩
  intro w br bv bt str r cs h hlen hv ht hsz d1 d2 d3 d4
  have hbt := ht.lt
  have cv := hv.cell 0
  simp only [List.getElem?_toArray, List.getElem?_cons_zero] at cv
  have hsz' : 0 + 1 ≤ cs.size := by rw [show Shape.sz .int = 1 from rfl] at hsz; exact hsz
  have HR := Lib.hid h
  have HV := Lib.hid hv
  have HT := Lib.hid ht
  have HG := Lib.hid hg
  clear h hv ht hg hsz
  go_enter Tryz.func252, Tryz.ntmps252
  go_wp2_with fail
  refine (HG.out _ br str (some r) HR.out (lim hlen)).mono ?_
  rintro e w1 ⟨v, rfl, hty, hst, hf, htx⟩
  have hb1 := HT.out.fr hf d1
  obtain ⟨zn, rfl⟩ := ty_int hty
  rw [val_int]
  obtain ⟨y0, e0⟩ : ∃ y, w1.cell? ⟨bt, 0, none⟩ = some y := ⟨_, (hb1.cell 0).trans (Array.getElem?_eq_getElem (by omega))⟩
  have f0 := hb1.frozen 0
  have HB1 := Lib.hid hb1
  have HTY := Lib.hid hty
  have HST := Lib.hid hst
  have HF := Lib.hid hf
  have HTX := Lib.hid htx
  clear hb1 hty hst hf htx
  go_wp2
  go_end0
  exact CloPost.of HTY.out HST.out HF.out HTX.out (HB1.out.set 0 (.int .i64 zn)) ((Fr.refl _ _).wr _ _) hbt d1 d4

set_option maxHeartbeats 1000000 in
theorem clo_factor_1 (n : Nat) (L : Nat) (hg : Reads 254 (indexS n) (L - 1)) : CloR 253 (indexS n) L 211 1 := by
  refine ⟨enters_of Tryz.func253 (by kernel_rfl) rfl, ?_⟩
  intro w br bv bt str r cs h hlen hv ht hsz d1 d2 d3 d4
  have hbt := ht.lt
  have cv := hv.cell 0
  simp only [List.getElem?_toArray, List.getElem?_cons_zero] at cv
  have hsz' : 1 + 2 ≤ cs.size := by rw [show Shape.sz (indexS n) = 2 from sz_index] at hsz; exact hsz
  have HR := Lib.hid h
  have HV := Lib.hid hv
  have HT := Lib.hid ht
  have HG := Lib.hid hg
  clear h hv ht hg hsz
  go_enter Tryz.func253, Tryz.ntmps253
  go_wp2_with fail
  refine (HG.out _ br str (some r) HR.out (lim hlen)).mono ?_
  rintro e w1 ⟨v, rfl, hty, hst, hf, htx⟩
  have hb1 := HT.out.fr hf d1
  obtain ⟨z0n, z1A, z1k, z1c, rfl⟩ := ty_index hty
  rw [val_index]
  obtain ⟨y0, e0⟩ : ∃ y, w1.cell? ⟨bt, 1, none⟩ = some y := ⟨_, (hb1.cell 1).trans (Array.getElem?_eq_getElem (by omega))⟩
  have f0 := hb1.frozen 1
  obtain ⟨y1, e1⟩ : ∃ y, w1.cell? ⟨bt, 2, none⟩ = some y := ⟨_, (hb1.cell 2).trans (Array.getElem?_eq_getElem (by omega))⟩
  have f1 := hb1.frozen 2
  have HB1 := Lib.hid hb1
  have HTY := Lib.hid hty
  have HST := Lib.hid hst
  have HF := Lib.hid hf
  have HTX := Lib.hid htx
  clear hb1 hty hst hf htx
  go_wp2
  go_end0
  exact CloPost.of HTY.out HST.out HF.out HTX.out ((HB1.out.set 1 (.int .i64 z0n)).set 2 (.slice z1A z1k z1c)) (((Fr.refl _ _).wr _ _).wr _ _) hbt d1 d4

set_option maxHeartbeats 1000000 in
theorem clo_atom_0 (L : Nat) (hg : Reads 51 linS (L - 1)) : CloR 255 linS L 215 0 := by
  refine ⟨enters_of Tryz.func255 (by kernel_rfl) rfl, ?_⟩
  intro w br bv bt str r cs h hlen hv ht hsz d1 d2 d3 d4
  have hbt := ht.lt
  have cv := hv.cell 0
  simp only [List.getElem?_toArray, List.getElem?_cons_zero] at cv
  have hsz' : 0 + 2 ≤ cs.size := by rw [show Shape.sz linS = 2 from sz_lin] at hsz; exact hsz
  have HR := Lib.hid h
  have HV := Lib.hid hv
  have HT := Lib.hid ht
  have HG := Lib.hid hg
  clear h hv ht hg hsz
  go_enter Tryz.func255, Tryz.ntmps255
  go_wp2_with fail
  refine (HG.out _ br str (some r) HR.out (lim hlen)).mono ?_
  rintro e w1 ⟨v, rfl, hty, hst, hf, htx⟩
  have hb1 := HT.out.fr hf d1
  obtain ⟨z0n, z1A, z1k, z1c, rfl⟩ := ty_lin hty
  rw [val_lin]
  obtain ⟨y0, e0⟩ : ∃ y, w1.cell? ⟨bt, 0, none⟩ = some y := ⟨_, (hb1.cell 0).trans (Array.getElem?_eq_getElem (by omega))⟩
  have f0 := hb1.frozen 0
  obtain ⟨y1, e1⟩ : ∃ y, w1.cell? ⟨bt, 1, none⟩ = some y := ⟨_, (hb1.cell 1).trans (Array.getElem?_eq_getElem (by omega))⟩
  have f1 := hb1.frozen 1
  have HB1 := Lib.hid hb1
  have HTY := Lib.hid hty
  have HST := Lib.hid hst
  have HF := Lib.hid hf
  have HTX := Lib.hid htx
  clear hb1 hty hst hf htx
  go_wp2
  go_end0
  exact CloPost.of HTY.out HST.out HF.out HTX.out ((HB1.out.set 0 (.int .i64 z0n)).set 1 (.slice z1A z1k z1c)) (((Fr.refl _ _).wr _ _).wr _ _) hbt d1 d4

set_option maxHeartbeats 1000000 in
theorem clo_atom_1 (L : Nat) (hg : Reads 61 .int (L - 1)) : CloR 256 .int L 215 2 := by
  refine ⟨enters_of Tryz.func256 (by kernel_rfl) rfl, ?_⟩
  intro w br bv bt str r cs h hlen hv ht hsz d1 d2 d3 d4
  have hbt := ht.lt
  have cv := hv.cell 0
  simp only [List.getElem?_toArray, List.getElem?_cons_zero] at cv
  have hsz' : 2 + 1 ≤ cs.size := by rw [show Shape.sz .int = 1 from rfl] at hsz; exact hsz
  have HR := Lib.hid h
  have HV := Lib.hid hv
  have HT := Lib.hid ht
  have HG := Lib.hid hg
  clear h hv ht hg hsz
  go_enter Tryz.func256, Tryz.ntmps256
  go_wp2_with fail
  refine (HG.out _ br str (some r) HR.out (lim hlen)).mono ?_
  rintro e w1 ⟨v, rfl, hty, hst, hf, htx⟩
  have hb1 := HT.out.fr hf d1
  obtain ⟨zn, rfl⟩ := ty_int hty
  rw [val_int]
  obtain ⟨y0, e0⟩ : ∃ y, w1.cell? ⟨bt, 2, none⟩ = some y := ⟨_, (hb1.cell 2).trans (Array.getElem?_eq_getElem (by omega))⟩
  have f0 := hb1.frozen 2
  have HB1 := Lib.hid hb1
  have HTY := Lib.hid hty
  have HST := Lib.hid hst
  have HF := Lib.hid hf
  have HTX := Lib.hid htx
  clear hb1 hty hst hf htx
  go_wp2
  go_end0
  exact CloPost.of HTY.out HST.out HF.out HTX.out (HB1.out.set 2 (.int .i64 zn)) ((Fr.refl _ _).wr _ _) hbt d1 d4

set_option maxHeartbeats 1000000 in
theorem clo_mono_0 (n : Nat) (L : Nat) (hg : Reads 205 (factorS n) (L - 1)) : CloR 203 (.list (factorS n)) L 114 0 := by
  refine ⟨enters_of Tryz.func203 (by kernel_rfl) rfl, ?_⟩
  intro w br bv bt str r cs h hlen hv ht hsz d1 d2 d3 d4
  have hbt := ht.lt
  have cv := hv.cell 0
  simp only [List.getElem?_toArray, List.getElem?_cons_zero] at cv
  have hsz' : 0 + 1 ≤ cs.size := by rw [show Shape.sz (.list (factorS n)) = 1 from rfl] at hsz; exact hsz
  have HR := Lib.hid h
  have HV := Lib.hid hv
  have HT := Lib.hid ht
  have HG := Lib.hid hg
  clear h hv ht hg hsz
  go_enter Tryz.func203, Tryz.ntmps203
  go_wp2_with fail
  refine (el_factor n (L - 1) _ _ _ _ br str (some r) HR.out (lim hlen) (ElR.meth (enters_of Tryz.func205 (by kernel_rfl) rfl) HG.out br str _)).mono ?_
  rintro e w1 ⟨v, rfl, hty, hst, hf, htx⟩
  have hb1 := HT.out.fr hf d1
  obtain ⟨zA, zk, zc, rfl⟩ := ty_list hty
  rw [val_list]
  obtain ⟨y0, e0⟩ : ∃ y, w1.cell? ⟨bt, 0, none⟩ = some y := ⟨_, (hb1.cell 0).trans (Array.getElem?_eq_getElem (by omega))⟩
  have f0 := hb1.frozen 0
  have HB1 := Lib.hid hb1
  have HTY := Lib.hid hty
  have HST := Lib.hid hst
  have HF := Lib.hid hf
  have HTX := Lib.hid htx
  clear hb1 hty hst hf htx
  go_wp2
  go_end0
  exact CloPost.of HTY.out HST.out HF.out HTX.out (HB1.out.set 0 (.slice zA zk zc)) ((Fr.refl _ _).wr _ _) hbt d1 d4

set_option maxHeartbeats 1000000 in
theorem clo_mono_1 (L : Nat) (hg : Reads 208 atomS (L - 1)) : CloR 206 (.list atomS) L 114 1 := by
  refine ⟨enters_of Tryz.func206 (by kernel_rfl) rfl, ?_⟩
  intro w br bv bt str r cs h hlen hv ht hsz d1 d2 d3 d4
  have hbt := ht.lt
  have cv := hv.cell 0
  simp only [List.getElem?_toArray, List.getElem?_cons_zero] at cv
  have hsz' : 1 + 1 ≤ cs.size := by rw [show Shape.sz (.list atomS) = 1 from rfl] at hsz; exact hsz
  have HR := Lib.hid h
  have HV := Lib.hid hv
  have HT := Lib.hid ht
  have HG := Lib.hid hg
  clear h hv ht hg hsz
  go_enter Tryz.func206, Tryz.ntmps206
  go_wp2_with fail
  refine (el_atom (L - 1) _ _ _ _ br str (some r) HR.out (lim hlen) (ElR.meth (enters_of Tryz.func208 (by kernel_rfl) rfl) HG.out br str _)).mono ?_
  rintro e w1 ⟨v, rfl, hty, hst, hf, htx⟩
  have hb1 := HT.out.fr hf d1
  obtain ⟨zA, zk, zc, rfl⟩ := ty_list hty
  rw [val_list]
  obtain ⟨y0, e0⟩ : ∃ y, w1.cell? ⟨bt, 1, none⟩ = some y := ⟨_, (hb1.cell 1).trans (Array.getElem?_eq_getElem (by omega))⟩
  have f0 := hb1.frozen 1
  have HB1 := Lib.hid hb1
  have HTY := Lib.hid hty
  have HST := Lib.hid hst
  have HF := Lib.hid hf
  have HTX := Lib.hid htx
  clear hb1 hty hst hf htx
  go_wp2
  go_end0
  exact CloPost.of HTY.out HST.out HF.out HTX.out (HB1.out.set 1 (.slice zA zk zc)) ((Fr.refl _ _).wr _ _) hbt d1 d4

end Go.Proofs.YtdbglgjphfkonaaGreatDoor

/-
  The reader: fields (printed by gen_codec.py).
-/
namespace Go.Proofs.YtdbglgjphfkonaaGreatDoor
open Go.RowKit AC
set_option linter.unusedVariables false
set_option linter.unusedSimpArgs false

set_option maxHeartbeats 1000000 in
theorem clo_term_0 (L : Nat) (hg : Reads 139 .rat (L - 1)) : CloR 138 .rat L 116 0 := by
  refine ⟨enters_of Tryz.func138 (by kernel_rfl) rfl, ?_⟩
  intro w br bv bt str r cs h hlen hv ht hsz d1 d2 d3 d4
  have hbt := ht.lt
  have cv := hv.cell 0
  simp only [List.getElem?_toArray, List.getElem?_cons_zero] at cv
  have hsz' : 0 + 3 ≤ cs.size := by rw [show Shape.sz .rat = 3 from rfl] at hsz; exact hsz
  have HR := Lib.hid h
  have HV := Lib.hid hv
  have HT := Lib.hid ht
  have HG := Lib.hid hg
  clear h hv ht hg hsz
  go_enter Tryz.func138, Tryz.ntmps138
  go_wp2_with fail
  refine (HG.out _ br str (some r) HR.out (lim hlen)).mono ?_
  rintro e w1 ⟨v, rfl, hty, hst, hf, htx⟩
  have hb1 := HT.out.fr hf d1
  obtain ⟨zb, zA, zk, zc, zD, zl, zd, rfl⟩ := ty_rat hty
  rw [val_rat]
  obtain ⟨y0, e0⟩ : ∃ y, w1.cell? ⟨bt, 0, none⟩ = some y := ⟨_, (hb1.cell 0).trans (Array.getElem?_eq_getElem (by omega))⟩
  have f0 := hb1.frozen 0
  obtain ⟨y1, e1⟩ : ∃ y, w1.cell? ⟨bt, 1, none⟩ = some y := ⟨_, (hb1.cell 1).trans (Array.getElem?_eq_getElem (by omega))⟩
  have f1 := hb1.frozen 1
  obtain ⟨y2, e2⟩ : ∃ y, w1.cell? ⟨bt, 2, none⟩ = some y := ⟨_, (hb1.cell 2).trans (Array.getElem?_eq_getElem (by omega))⟩
  have f2 := hb1.frozen 2
  have HB1 := Lib.hid hb1
  have HTY := Lib.hid hty
  have HST := Lib.hid hst
  have HF := Lib.hid hf
  have HTX := Lib.hid htx
  clear hb1 hty hst hf htx
  go_wp2
  go_end0
  exact CloPost.of HTY.out HST.out HF.out HTX.out (((HB1.out.set 0 (.bool zb)).set 1 (.slice zA zk zc)).set 2 (.slice zD zl zd)) ((((Fr.refl _ _).wr _ _).wr _ _).wr _ _) hbt d1 d4

set_option maxHeartbeats 1000000 in
theorem clo_term_1 (n : Nat) (L : Nat) (hg : Reads 141 (monoS n) (L - 1)) : CloR 140 (monoS n) L 116 3 := by
  refine ⟨enters_of Tryz.func140 (by kernel_rfl) rfl, ?_⟩
  intro w br bv bt str r cs h hlen hv ht hsz d1 d2 d3 d4
  have hbt := ht.lt
  have cv := hv.cell 0
  simp only [List.getElem?_toArray, List.getElem?_cons_zero] at cv
  have hsz' : 3 + 2 ≤ cs.size := by rw [show Shape.sz (monoS n) = 2 from sz_mono] at hsz; exact hsz
  have HR := Lib.hid h
  have HV := Lib.hid hv
  have HT := Lib.hid ht
  have HG := Lib.hid hg
  clear h hv ht hg hsz
  go_enter Tryz.func140, Tryz.ntmps140
  go_wp2_with fail
  refine (HG.out _ br str (some r) HR.out (lim hlen)).mono ?_
  rintro e w1 ⟨v, rfl, hty, hst, hf, htx⟩
  have hb1 := HT.out.fr hf d1
  obtain ⟨z0A, z0k, z0c, z1A, z1k, z1c, rfl⟩ := ty_mono hty
  rw [val_mono]
  obtain ⟨y0, e0⟩ : ∃ y, w1.cell? ⟨bt, 3, none⟩ = some y := ⟨_, (hb1.cell 3).trans (Array.getElem?_eq_getElem (by omega))⟩
  have f0 := hb1.frozen 3
  obtain ⟨y1, e1⟩ : ∃ y, w1.cell? ⟨bt, 4, none⟩ = some y := ⟨_, (hb1.cell 4).trans (Array.getElem?_eq_getElem (by omega))⟩
  have f1 := hb1.frozen 4
  have HB1 := Lib.hid hb1
  have HTY := Lib.hid hty
  have HST := Lib.hid hst
  have HF := Lib.hid hf
  have HTX := Lib.hid htx
  clear hb1 hty hst hf htx
  go_wp2
  go_end0
  exact CloPost.of HTY.out HST.out HF.out HTX.out ((HB1.out.set 3 (.slice z0A z0k z0c)).set 4 (.slice z1A z1k z1c)) (((Fr.refl _ _).wr _ _).wr _ _) hbt d1 d4

set_option maxHeartbeats 1000000 in
theorem clo_use_0 (L : Nat) (hg : Reads 61 .int (L - 1)) : CloR 209 .int L 172 0 := by
  refine ⟨enters_of Tryz.func209 (by kernel_rfl) rfl, ?_⟩
  intro w br bv bt str r cs h hlen hv ht hsz d1 d2 d3 d4
  have hbt := ht.lt
  have cv := hv.cell 0
  simp only [List.getElem?_toArray, List.getElem?_cons_zero] at cv
  have hsz' : 0 + 1 ≤ cs.size := by rw [show Shape.sz .int = 1 from rfl] at hsz; exact hsz
  have HR := Lib.hid h
  have HV := Lib.hid hv
  have HT := Lib.hid ht
  have HG := Lib.hid hg
  clear h hv ht hg hsz
  go_enter Tryz.func209, Tryz.ntmps209
  go_wp2_with fail
  refine (HG.out _ br str (some r) HR.out (lim hlen)).mono ?_
  rintro e w1 ⟨v, rfl, hty, hst, hf, htx⟩
  have hb1 := HT.out.fr hf d1
  obtain ⟨zn, rfl⟩ := ty_int hty
  rw [val_int]
  obtain ⟨y0, e0⟩ : ∃ y, w1.cell? ⟨bt, 0, none⟩ = some y := ⟨_, (hb1.cell 0).trans (Array.getElem?_eq_getElem (by omega))⟩
  have f0 := hb1.frozen 0
  have HB1 := Lib.hid hb1
  have HTY := Lib.hid hty
  have HST := Lib.hid hst
  have HF := Lib.hid hf
  have HTX := Lib.hid htx
  clear hb1 hty hst hf htx
  go_wp2
  go_end0
  exact CloPost.of HTY.out HST.out HF.out HTX.out (HB1.out.set 0 (.int .i64 zn)) ((Fr.refl _ _).wr _ _) hbt d1 d4

set_option maxHeartbeats 1000000 in
theorem clo_use_1 (L : Nat) (hg : Reads 139 .rat (L - 1)) : CloR 210 .rat L 172 1 := by
  refine ⟨enters_of Tryz.func210 (by kernel_rfl) rfl, ?_⟩
  intro w br bv bt str r cs h hlen hv ht hsz d1 d2 d3 d4
  have hbt := ht.lt
  have cv := hv.cell 0
  simp only [List.getElem?_toArray, List.getElem?_cons_zero] at cv
  have hsz' : 1 + 3 ≤ cs.size := by rw [show Shape.sz .rat = 3 from rfl] at hsz; exact hsz
  have HR := Lib.hid h
  have HV := Lib.hid hv
  have HT := Lib.hid ht
  have HG := Lib.hid hg
  clear h hv ht hg hsz
  go_enter Tryz.func210, Tryz.ntmps210
  go_wp2_with fail
  refine (HG.out _ br str (some r) HR.out (lim hlen)).mono ?_
  rintro e w1 ⟨v, rfl, hty, hst, hf, htx⟩
  have hb1 := HT.out.fr hf d1
  obtain ⟨zb, zA, zk, zc, zD, zl, zd, rfl⟩ := ty_rat hty
  rw [val_rat]
  obtain ⟨y0, e0⟩ : ∃ y, w1.cell? ⟨bt, 1, none⟩ = some y := ⟨_, (hb1.cell 1).trans (Array.getElem?_eq_getElem (by omega))⟩
  have f0 := hb1.frozen 1
  obtain ⟨y1, e1⟩ : ∃ y, w1.cell? ⟨bt, 2, none⟩ = some y := ⟨_, (hb1.cell 2).trans (Array.getElem?_eq_getElem (by omega))⟩
  have f1 := hb1.frozen 2
  obtain ⟨y2, e2⟩ : ∃ y, w1.cell? ⟨bt, 3, none⟩ = some y := ⟨_, (hb1.cell 3).trans (Array.getElem?_eq_getElem (by omega))⟩
  have f2 := hb1.frozen 3
  have HB1 := Lib.hid hb1
  have HTY := Lib.hid hty
  have HST := Lib.hid hst
  have HF := Lib.hid hf
  have HTX := Lib.hid htx
  clear hb1 hty hst hf htx
  go_wp2
  go_end0
  exact CloPost.of HTY.out HST.out HF.out HTX.out (((HB1.out.set 1 (.bool zb)).set 2 (.slice zA zk zc)).set 3 (.slice zD zl zd)) ((((Fr.refl _ _).wr _ _).wr _ _).wr _ _) hbt d1 d4

set_option maxHeartbeats 1000000 in
theorem clo_use_2 (n : Nat) (L : Nat) (hg : Reads 141 (monoS n) (L - 1)) : CloR 211 (monoS n) L 172 4 := by
  refine ⟨enters_of Tryz.func211 (by kernel_rfl) rfl, ?_⟩
  intro w br bv bt str r cs h hlen hv ht hsz d1 d2 d3 d4
  have hbt := ht.lt
  have cv := hv.cell 0
  simp only [List.getElem?_toArray, List.getElem?_cons_zero] at cv
  have hsz' : 4 + 2 ≤ cs.size := by rw [show Shape.sz (monoS n) = 2 from sz_mono] at hsz; exact hsz
  have HR := Lib.hid h
  have HV := Lib.hid hv
  have HT := Lib.hid ht
  have HG := Lib.hid hg
  clear h hv ht hg hsz
  go_enter Tryz.func211, Tryz.ntmps211
  go_wp2_with fail
  refine (HG.out _ br str (some r) HR.out (lim hlen)).mono ?_
  rintro e w1 ⟨v, rfl, hty, hst, hf, htx⟩
  have hb1 := HT.out.fr hf d1
  obtain ⟨z0A, z0k, z0c, z1A, z1k, z1c, rfl⟩ := ty_mono hty
  rw [val_mono]
  obtain ⟨y0, e0⟩ : ∃ y, w1.cell? ⟨bt, 4, none⟩ = some y := ⟨_, (hb1.cell 4).trans (Array.getElem?_eq_getElem (by omega))⟩
  have f0 := hb1.frozen 4
  obtain ⟨y1, e1⟩ : ∃ y, w1.cell? ⟨bt, 5, none⟩ = some y := ⟨_, (hb1.cell 5).trans (Array.getElem?_eq_getElem (by omega))⟩
  have f1 := hb1.frozen 5
  have HB1 := Lib.hid hb1
  have HTY := Lib.hid hty
  have HST := Lib.hid hst
  have HF := Lib.hid hf
  have HTX := Lib.hid htx
  clear hb1 hty hst hf htx
  go_wp2
  go_end0
  exact CloPost.of HTY.out HST.out HF.out HTX.out ((HB1.out.set 4 (.slice z0A z0k z0c)).set 5 (.slice z1A z1k z1c)) (((Fr.refl _ _).wr _ _).wr _ _) hbt d1 d4

set_option maxHeartbeats 1000000 in
theorem clo_part_0 (L : Nat) (hg : Reads 61 .int (L - 1)) : CloR 147 .int L 125 0 := by
  refine ⟨enters_of Tryz.func147 (by kernel_rfl) rfl, ?_⟩
  intro w br bv bt str r cs h hlen hv ht hsz d1 d2 d3 d4
  have hbt := ht.lt
  have cv := hv.cell 0
  simp only [List.getElem?_toArray, List.getElem?_cons_zero] at cv
  have hsz' : 0 + 1 ≤ cs.size := by rw [show Shape.sz .int = 1 from rfl] at hsz; exact hsz
  have HR := Lib.hid h
  have HV := Lib.hid hv
  have HT := Lib.hid ht
  have HG := Lib.hid hg
  clear h hv ht hg hsz
  go_enter Tryz.func147, Tryz.ntmps147
  go_wp2_with fail
  refine (HG.out _ br str (some r) HR.out (lim hlen)).mono ?_
  rintro e w1 ⟨v, rfl, hty, hst, hf, htx⟩
  have hb1 := HT.out.fr hf d1
  obtain ⟨zn, rfl⟩ := ty_int hty
  rw [val_int]
  obtain ⟨y0, e0⟩ : ∃ y, w1.cell? ⟨bt, 0, none⟩ = some y := ⟨_, (hb1.cell 0).trans (Array.getElem?_eq_getElem (by omega))⟩
  have f0 := hb1.frozen 0
  have HB1 := Lib.hid hb1
  have HTY := Lib.hid hty
  have HST := Lib.hid hst
  have HF := Lib.hid hf
  have HTX := Lib.hid htx
  clear hb1 hty hst hf htx
  go_wp2
  go_end0
  exact CloPost.of HTY.out HST.out HF.out HTX.out (HB1.out.set 0 (.int .i64 zn)) ((Fr.refl _ _).wr _ _) hbt d1 d4

set_option maxHeartbeats 1000000 in
theorem clo_part_1 (L : Nat) (hg : Reads 139 .rat (L - 1)) : CloR 148 .rat L 125 1 := by
  refine ⟨enters_of Tryz.func148 (by kernel_rfl) rfl, ?_⟩
  intro w br bv bt str r cs h hlen hv ht hsz d1 d2 d3 d4
  have hbt := ht.lt
  have cv := hv.cell 0
  simp only [List.getElem?_toArray, List.getElem?_cons_zero] at cv
  have hsz' : 1 + 3 ≤ cs.size := by rw [show Shape.sz .rat = 3 from rfl] at hsz; exact hsz
  have HR := Lib.hid h
  have HV := Lib.hid hv
  have HT := Lib.hid ht
  have HG := Lib.hid hg
  clear h hv ht hg hsz
  go_enter Tryz.func148, Tryz.ntmps148
  go_wp2_with fail
  refine (HG.out _ br str (some r) HR.out (lim hlen)).mono ?_
  rintro e w1 ⟨v, rfl, hty, hst, hf, htx⟩
  have hb1 := HT.out.fr hf d1
  obtain ⟨zb, zA, zk, zc, zD, zl, zd, rfl⟩ := ty_rat hty
  rw [val_rat]
  obtain ⟨y0, e0⟩ : ∃ y, w1.cell? ⟨bt, 1, none⟩ = some y := ⟨_, (hb1.cell 1).trans (Array.getElem?_eq_getElem (by omega))⟩
  have f0 := hb1.frozen 1
  obtain ⟨y1, e1⟩ : ∃ y, w1.cell? ⟨bt, 2, none⟩ = some y := ⟨_, (hb1.cell 2).trans (Array.getElem?_eq_getElem (by omega))⟩
  have f1 := hb1.frozen 2
  obtain ⟨y2, e2⟩ : ∃ y, w1.cell? ⟨bt, 3, none⟩ = some y := ⟨_, (hb1.cell 3).trans (Array.getElem?_eq_getElem (by omega))⟩
  have f2 := hb1.frozen 3
  have HB1 := Lib.hid hb1
  have HTY := Lib.hid hty
  have HST := Lib.hid hst
  have HF := Lib.hid hf
  have HTX := Lib.hid htx
  clear hb1 hty hst hf htx
  go_wp2
  go_end0
  exact CloPost.of HTY.out HST.out HF.out HTX.out (((HB1.out.set 1 (.bool zb)).set 2 (.slice zA zk zc)).set 3 (.slice zD zl zd)) ((((Fr.refl _ _).wr _ _).wr _ _).wr _ _) hbt d1 d4

set_option maxHeartbeats 1000000 in
theorem clo_part_2 (n : Nat) (L : Nat) (hg : Reads 141 (monoS n) (L - 1)) : CloR 149 (monoS n) L 125 4 := by
  refine ⟨enters_of Tryz.func149 (by kernel_rfl) rfl, ?_⟩
  intro w br bv bt str r cs h hlen hv ht hsz d1 d2 d3 d4
  have hbt := ht.lt
  have cv := hv.cell 0
  simp only [List.getElem?_toArray, List.getElem?_cons_zero] at cv
  have hsz' : 4 + 2 ≤ cs.size := by rw [show Shape.sz (monoS n) = 2 from sz_mono] at hsz; exact hsz
  have HR := Lib.hid h
  have HV := Lib.hid hv
  have HT := Lib.hid ht
  have HG := Lib.hid hg
  clear h hv ht hg hsz
  go_enter Tryz.func149, Tryz.ntmps149
  go_wp2_with fail
  refine (HG.out _ br str (some r) HR.out (lim hlen)).mono ?_
  rintro e w1 ⟨v, rfl, hty, hst, hf, htx⟩
  have hb1 := HT.out.fr hf d1
  obtain ⟨z0A, z0k, z0c, z1A, z1k, z1c, rfl⟩ := ty_mono hty
  rw [val_mono]
  obtain ⟨y0, e0⟩ : ∃ y, w1.cell? ⟨bt, 4, none⟩ = some y := ⟨_, (hb1.cell 4).trans (Array.getElem?_eq_getElem (by omega))⟩
  have f0 := hb1.frozen 4
  obtain ⟨y1, e1⟩ : ∃ y, w1.cell? ⟨bt, 5, none⟩ = some y := ⟨_, (hb1.cell 5).trans (Array.getElem?_eq_getElem (by omega))⟩
  have f1 := hb1.frozen 5
  have HB1 := Lib.hid hb1
  have HTY := Lib.hid hty
  have HST := Lib.hid hst
  have HF := Lib.hid hf
  have HTX := Lib.hid htx
  clear hb1 hty hst hf htx
  go_wp2
  go_end0
  exact CloPost.of HTY.out HST.out HF.out HTX.out ((HB1.out.set 4 (.slice z0A z0k z0c)).set 5 (.slice z1A z1k z1c)) (((Fr.refl _ _).wr _ _).wr _ _) hbt d1 d4

set_option maxHeartbeats 1000000 in
theorem clo_target_0 (L : Nat) (hg : Reads 61 .int (L - 1)) : CloR 142 .int L 121 0 := by
  refine ⟨enters_of Tryz.func142 (by kernel_rfl) rfl, ?_⟩
  intro w br bv bt str r cs h hlen hv ht hsz d1 d2 d3 d4
  have hbt := ht.lt
  have cv := hv.cell 0
  simp only [List.getElem?_toArray, List.getElem?_cons_zero] at cv
  have hsz' : 0 + 1 ≤ cs.size := by rw [show Shape.sz .int = 1 from rfl] at hsz; exact hsz
  have HR := Lib.hid h
  have HV := Lib.hid hv
  have HT := Lib.hid ht
  have HG := Lib.hid hg
  clear h hv ht hg hsz
  go_enter Tryz.func142, Tryz.ntmps142
  go_wp2_with fail
  refine (HG.out _ br str (some r) HR.out (lim hlen)).mono ?_
  rintro e w1 ⟨v, rfl, hty, hst, hf, htx⟩
  have hb1 := HT.out.fr hf d1
  obtain ⟨zn, rfl⟩ := ty_int hty
  rw [val_int]
  obtain ⟨y0, e0⟩ : ∃ y, w1.cell? ⟨bt, 0, none⟩ = some y := ⟨_, (hb1.cell 0).trans (Array.getElem?_eq_getElem (by omega))⟩
  have f0 := hb1.frozen 0
  have HB1 := Lib.hid hb1
  have HTY := Lib.hid hty
  have HST := Lib.hid hst
  have HF := Lib.hid hf
  have HTX := Lib.hid htx
  clear hb1 hty hst hf htx
  go_wp2
  go_end0
  exact CloPost.of HTY.out HST.out HF.out HTX.out (HB1.out.set 0 (.int .i64 zn)) ((Fr.refl _ _).wr _ _) hbt d1 d4

set_option maxHeartbeats 1000000 in
theorem clo_target_1 (n : Nat) (L : Nat) (hg : Reads 145 (useS n) (L - 1)) : CloR 143 (.list (useS n)) L 121 1 := by
  refine ⟨enters_of Tryz.func143 (by kernel_rfl) rfl, ?_⟩
  intro w br bv bt str r cs h hlen hv ht hsz d1 d2 d3 d4
  have hbt := ht.lt
  have cv := hv.cell 0
  simp only [List.getElem?_toArray, List.getElem?_cons_zero] at cv
  have hsz' : 1 + 1 ≤ cs.size := by rw [show Shape.sz (.list (useS n)) = 1 from rfl] at hsz; exact hsz
  have HR := Lib.hid h
  have HV := Lib.hid hv
  have HT := Lib.hid ht
  have HG := Lib.hid hg
  clear h hv ht hg hsz
  go_enter Tryz.func143, Tryz.ntmps143
  go_wp2_with fail
  refine (el_use n (L - 1) _ _ _ _ br str (some r) HR.out (lim hlen) (ElR.meth (enters_of Tryz.func145 (by kernel_rfl) rfl) HG.out br str _)).mono ?_
  rintro e w1 ⟨v, rfl, hty, hst, hf, htx⟩
  have hb1 := HT.out.fr hf d1
  obtain ⟨zA, zk, zc, rfl⟩ := ty_list hty
  rw [val_list]
  obtain ⟨y0, e0⟩ : ∃ y, w1.cell? ⟨bt, 1, none⟩ = some y := ⟨_, (hb1.cell 1).trans (Array.getElem?_eq_getElem (by omega))⟩
  have f0 := hb1.frozen 1
  have HB1 := Lib.hid hb1
  have HTY := Lib.hid hty
  have HST := Lib.hid hst
  have HF := Lib.hid hf
  have HTX := Lib.hid htx
  clear hb1 hty hst hf htx
  go_wp2
  go_end0
  exact CloPost.of HTY.out HST.out HF.out HTX.out (HB1.out.set 1 (.slice zA zk zc)) ((Fr.refl _ _).wr _ _) hbt d1 d4

set_option maxHeartbeats 1000000 in
theorem clo_target_2 (n : Nat) (L : Nat) (hg : Reads 66 (termS n) (L - 1)) : CloR 146 (.list (termS n)) L 121 2 := by
  refine ⟨enters_of Tryz.func146 (by kernel_rfl) rfl, ?_⟩
  intro w br bv bt str r cs h hlen hv ht hsz d1 d2 d3 d4
  have hbt := ht.lt
  have cv := hv.cell 0
  simp only [List.getElem?_toArray, List.getElem?_cons_zero] at cv
  have hsz' : 2 + 1 ≤ cs.size := by rw [show Shape.sz (.list (termS n)) = 1 from rfl] at hsz; exact hsz
  have HR := Lib.hid h
  have HV := Lib.hid hv
  have HT := Lib.hid ht
  have HG := Lib.hid hg
  clear h hv ht hg hsz
  go_enter Tryz.func146, Tryz.ntmps146
  go_wp2_with fail
  refine (el_term n (L - 1) _ _ _ _ br str (some r) HR.out (lim hlen) (ElR.meth (enters_of Tryz.func66 (by kernel_rfl) rfl) HG.out br str _)).mono ?_
  rintro e w1 ⟨v, rfl, hty, hst, hf, htx⟩
  have hb1 := HT.out.fr hf d1
  obtain ⟨zA, zk, zc, rfl⟩ := ty_list hty
  rw [val_list]
  obtain ⟨y0, e0⟩ : ∃ y, w1.cell? ⟨bt, 2, none⟩ = some y := ⟨_, (hb1.cell 2).trans (Array.getElem?_eq_getElem (by omega))⟩
  have f0 := hb1.frozen 2
  have HB1 := Lib.hid hb1
  have HTY := Lib.hid hty
  have HST := Lib.hid hst
  have HF := Lib.hid hf
  have HTX := Lib.hid htx
  clear hb1 hty hst hf htx
  go_wp2
  go_end0
  exact CloPost.of HTY.out HST.out HF.out HTX.out (HB1.out.set 2 (.slice zA zk zc)) ((Fr.refl _ _).wr _ _) hbt d1 d4

set_option maxHeartbeats 1000000 in
theorem clo_axiom_0 (L : Nat) (hg : Reads 61 .int (L - 1)) : CloR 212 .int L 132 0 := by
  refine ⟨enters_of Tryz.func212 (by kernel_rfl) rfl, ?_⟩
  intro w br bv bt str r cs h hlen hv ht hsz d1 d2 d3 d4
  have hbt := ht.lt
  have cv := hv.cell 0
  simp only [List.getElem?_toArray, List.getElem?_cons_zero] at cv
  have hsz' : 0 + 1 ≤ cs.size := by rw [show Shape.sz .int = 1 from rfl] at hsz; exact hsz
  have HR := Lib.hid h
  have HV := Lib.hid hv
  have HT := Lib.hid ht
  have HG := Lib.hid hg
  clear h hv ht hg hsz
  go_enter Tryz.func212, Tryz.ntmps212
  go_wp2_with fail
  refine (HG.out _ br str (some r) HR.out (lim hlen)).mono ?_
  rintro e w1 ⟨v, rfl, hty, hst, hf, htx⟩
  have hb1 := HT.out.fr hf d1
  obtain ⟨zn, rfl⟩ := ty_int hty
  rw [val_int]
  obtain ⟨y0, e0⟩ : ∃ y, w1.cell? ⟨bt, 0, none⟩ = some y := ⟨_, (hb1.cell 0).trans (Array.getElem?_eq_getElem (by omega))⟩
  have f0 := hb1.frozen 0
  have HB1 := Lib.hid hb1
  have HTY := Lib.hid hty
  have HST := Lib.hid hst
  have HF := Lib.hid hf
  have HTX := Lib.hid htx
  clear hb1 hty hst hf htx
  go_wp2
  go_end0
  exact CloPost.of HTY.out HST.out HF.out HTX.out (HB1.out.set 0 (.int .i64 zn)) ((Fr.refl _ _).wr _ _) hbt d1 d4

end Go.Proofs.YtdbglgjphfkonaaGreatDoor

