/-
 The reader: fields (printed by gen_codec.py).
-/
import Derived.Test.YtpbdkkoanedimaaGreatDoorHCRa
import Derived.Test.YtpbdkkoanedimaaGreatDoorHCE1
import Derived.Test.YtpbdkkoanedimaaGreatDoorHCE4
import Derived.Test.YtpbdkkoanedimaaGreatDoorHCE5
namespace Go.Proofs.YtpbdkkoanedimaaGreatDoor
open Go.Lib (hid)
open Go.RowKit AC
set_option linter.unusedVariables false
set_option linter.unusedSimpArgs false
set_option maxHeartbeats 4000000 in
theorem clo_linTerm_0 (L : Nat) (hg : Reads 160 .int (L - 1)) : CloR 290 .int L 195 0 := by
 refine ⟨enters_of Tryz.func290 (by kernel_rfl) rfl, ?_⟩
 intro w br bv bt str r cs h hlen hv ht hsz d1 d2 d3 d4
 have hbt := ht.lt
 have cv := hv.cell 0
 simp only [gq] at cv
 have hsz' : 0 + 1 ≤ cs.size := by rw [show Shape.sz .int = 1 from rfl] at hsz; exact hsz
 have HR := hid h
 have HV := hid hv
 have HT := hid ht
 have HG := hid hg
 clear h hv ht hg hsz
 go_enter Tryz.func290, Tryz.ntmps290
 go_wp2_with fail
 refine (HG.out _ br str (some r) HR.out (lim hlen)).mono ?_
 rintro e w1 ⟨v, rfl, hty, hst, hf, htx⟩
 have hb1 := HT.out.fr hf d1
 obtain ⟨zn, rfl⟩ := ty_int hty
 rw [val_int]
 obtain ⟨y0, e0⟩ : ∃ y, w1.cell? ⟨bt, 0, none⟩ = some y := ⟨_, (hb1.cell 0).trans (Array.getElem?_eq_getElem (by omega))⟩
 have f0 := hb1.frozen 0
 have HB1 := hid hb1
 have HTY := hid hty
 have HST := hid hst
 have HF := hid hf
 have HTX := hid htx
 clear hb1 hty hst hf htx
 go_wp2
 go_end0
 exact CloPost.of HTY.out HST.out HF.out HTX.out (HB1.out.set 0 (.int .i64 zn)) ((Fr.refl _ _).wr _ _) hbt d1 d4
set_option maxHeartbeats 4000000 in
theorem clo_linTerm_1 (L : Nat) (hg : Reads 226 .int (L - 1)) : CloR 291 .int L 195 1 := by
 refine ⟨enters_of Tryz.func291 (by kernel_rfl) rfl, ?_⟩
 intro w br bv bt str r cs h hlen hv ht hsz d1 d2 d3 d4
 have hbt := ht.lt
 have cv := hv.cell 0
 simp only [gq] at cv
 have hsz' : 1 + 1 ≤ cs.size := by rw [show Shape.sz .int = 1 from rfl] at hsz; exact hsz
 have HR := hid h
 have HV := hid hv
 have HT := hid ht
 have HG := hid hg
 clear h hv ht hg hsz
 go_enter Tryz.func291, Tryz.ntmps291
 go_wp2_with fail
 refine (HG.out _ br str (some r) HR.out (lim hlen)).mono ?_
 rintro e w1 ⟨v, rfl, hty, hst, hf, htx⟩
 have hb1 := HT.out.fr hf d1
 obtain ⟨zn, rfl⟩ := ty_int hty
 rw [val_int]
 obtain ⟨y0, e0⟩ : ∃ y, w1.cell? ⟨bt, 1, none⟩ = some y := ⟨_, (hb1.cell 1).trans (Array.getElem?_eq_getElem (by omega))⟩
 have f0 := hb1.frozen 1
 have HB1 := hid hb1
 have HTY := hid hty
 have HST := hid hst
 have HF := hid hf
 have HTX := hid htx
 clear hb1 hty hst hf htx
 go_wp2
 go_end0
 exact CloPost.of HTY.out HST.out HF.out HTX.out (HB1.out.set 1 (.int .i64 zn)) ((Fr.refl _ _).wr _ _) hbt d1 d4
set_option maxHeartbeats 4000000 in
theorem clo_lin_0 (L : Nat) (hg : Reads 226 .int (L - 1)) : CloR 227 .int L 130 0 := by
 refine ⟨enters_of Tryz.func227 (by kernel_rfl) rfl, ?_⟩
 intro w br bv bt str r cs h hlen hv ht hsz d1 d2 d3 d4
 have hbt := ht.lt
 have cv := hv.cell 0
 simp only [gq] at cv
 have hsz' : 0 + 1 ≤ cs.size := by rw [show Shape.sz .int = 1 from rfl] at hsz; exact hsz
 have HR := hid h
 have HV := hid hv
 have HT := hid ht
 have HG := hid hg
 clear h hv ht hg hsz
 go_enter Tryz.func227, Tryz.ntmps227
 go_wp2_with fail
 refine (HG.out _ br str (some r) HR.out (lim hlen)).mono ?_
 rintro e w1 ⟨v, rfl, hty, hst, hf, htx⟩
 have hb1 := HT.out.fr hf d1
 obtain ⟨zn, rfl⟩ := ty_int hty
 rw [val_int]
 obtain ⟨y0, e0⟩ : ∃ y, w1.cell? ⟨bt, 0, none⟩ = some y := ⟨_, (hb1.cell 0).trans (Array.getElem?_eq_getElem (by omega))⟩
 have f0 := hb1.frozen 0
 have HB1 := hid hb1
 have HTY := hid hty
 have HST := hid hst
 have HF := hid hf
 have HTX := hid htx
 clear hb1 hty hst hf htx
 go_wp2
 go_end0
 exact CloPost.of HTY.out HST.out HF.out HTX.out (HB1.out.set 0 (.int .i64 zn)) ((Fr.refl _ _).wr _ _) hbt d1 d4
set_option maxHeartbeats 4000000 in
theorem clo_lin_1 (L : Nat) (hg : Reads 230 linTermS (L - 1)) : CloR 228 (.list linTermS) L 130 1 := by
 refine ⟨enters_of Tryz.func228 (by kernel_rfl) rfl, ?_⟩
 intro w br bv bt str r cs h hlen hv ht hsz d1 d2 d3 d4
 have hbt := ht.lt
 have cv := hv.cell 0
 simp only [gq] at cv
 have hsz' : 1 + 1 ≤ cs.size := by rw [show Shape.sz (.list linTermS) = 1 from rfl] at hsz; exact hsz
 have HR := hid h
 have HV := hid hv
 have HT := hid ht
 have HG := hid hg
 clear h hv ht hg hsz
 go_enter Tryz.func228, Tryz.ntmps228
 go_wp2_with fail
 refine (el_linTerm (L - 1) _ _ _ _ br str (some r) HR.out (lim hlen) (ElR.meth (enters_of Tryz.func230 (by kernel_rfl) rfl) HG.out br str _)).mono ?_
 rintro e w1 ⟨v, rfl, hty, hst, hf, htx⟩
 have hb1 := HT.out.fr hf d1
 obtain ⟨zA, zk, zc, rfl⟩ := ty_list hty
 rw [val_list]
 obtain ⟨y0, e0⟩ : ∃ y, w1.cell? ⟨bt, 1, none⟩ = some y := ⟨_, (hb1.cell 1).trans (Array.getElem?_eq_getElem (by omega))⟩
 have f0 := hb1.frozen 1
 have HB1 := hid hb1
 have HTY := hid hty
 have HST := hid hst
 have HF := hid hf
 have HTX := hid htx
 clear hb1 hty hst hf htx
 go_wp2
 go_end0
 exact CloPost.of HTY.out HST.out HF.out HTX.out (HB1.out.set 1 (.slice zA zk zc)) ((Fr.refl _ _).wr _ _) hbt d1 d4
set_option maxHeartbeats 4000000 in
theorem clo_relation_0 (L : Nat) (hg : Reads 150 linS (L - 1)) : CloR 148 (.list linS) L 87 0 := by
 refine ⟨enters_of Tryz.func148 (by kernel_rfl) rfl, ?_⟩
 intro w br bv bt str r cs h hlen hv ht hsz d1 d2 d3 d4
 have hbt := ht.lt
 have cv := hv.cell 0
 simp only [gq] at cv
 have hsz' : 0 + 1 ≤ cs.size := by rw [show Shape.sz (.list linS) = 1 from rfl] at hsz; exact hsz
 have HR := hid h
 have HV := hid hv
 have HT := hid ht
 have HG := hid hg
 clear h hv ht hg hsz
 go_enter Tryz.func148, Tryz.ntmps148
 go_wp2_with fail
 refine (el_lin (L - 1) _ _ _ _ br str (some r) HR.out (lim hlen) (ElR.meth (enters_of Tryz.func150 (by kernel_rfl) rfl) HG.out br str _)).mono ?_
 rintro e w1 ⟨v, rfl, hty, hst, hf, htx⟩
 have hb1 := HT.out.fr hf d1
 obtain ⟨zA, zk, zc, rfl⟩ := ty_list hty
 rw [val_list]
 obtain ⟨y0, e0⟩ : ∃ y, w1.cell? ⟨bt, 0, none⟩ = some y := ⟨_, (hb1.cell 0).trans (Array.getElem?_eq_getElem (by omega))⟩
 have f0 := hb1.frozen 0
 have HB1 := hid hb1
 have HTY := hid hty
 have HST := hid hst
 have HF := hid hf
 have HTX := hid htx
 clear hb1 hty hst hf htx
 go_wp2
 go_end0
 exact CloPost.of HTY.out HST.out HF.out HTX.out (HB1.out.set 0 (.slice zA zk zc)) ((Fr.refl _ _).wr _ _) hbt d1 d4
set_option maxHeartbeats 4000000 in
theorem clo_relation_1 (L : Nat) (hg : Reads 150 linS (L - 1)) : CloR 151 (.list linS) L 87 1 := by
 refine ⟨enters_of Tryz.func151 (by kernel_rfl) rfl, ?_⟩
 intro w br bv bt str r cs h hlen hv ht hsz d1 d2 d3 d4
 have hbt := ht.lt
 have cv := hv.cell 0
 simp only [gq] at cv
 have hsz' : 1 + 1 ≤ cs.size := by rw [show Shape.sz (.list linS) = 1 from rfl] at hsz; exact hsz
 have HR := hid h
 have HV := hid hv
 have HT := hid ht
 have HG := hid hg
 clear h hv ht hg hsz
 go_enter Tryz.func151, Tryz.ntmps151
 go_wp2_with fail
 refine (el_lin (L - 1) _ _ _ _ br str (some r) HR.out (lim hlen) (ElR.meth (enters_of Tryz.func150 (by kernel_rfl) rfl) HG.out br str _)).mono ?_
 rintro e w1 ⟨v, rfl, hty, hst, hf, htx⟩
 have hb1 := HT.out.fr hf d1
 obtain ⟨zA, zk, zc, rfl⟩ := ty_list hty
 rw [val_list]
 obtain ⟨y0, e0⟩ : ∃ y, w1.cell? ⟨bt, 1, none⟩ = some y := ⟨_, (hb1.cell 1).trans (Array.getElem?_eq_getElem (by omega))⟩
 have f0 := hb1.frozen 1
 have HB1 := hid hb1
 have HTY := hid hty
 have HST := hid hst
 have HF := hid hf
 have HTX := hid htx
 clear hb1 hty hst hf htx
 go_wp2
 go_end0
 exact CloPost.of HTY.out HST.out HF.out HTX.out (HB1.out.set 1 (.slice zA zk zc)) ((Fr.refl _ _).wr _ _) hbt d1 d4
set_option maxHeartbeats 4000000 in
theorem clo_metric_0 (L : Nat) (hg : Reads 145 (.list .int) (L - 1)) : CloR 144 (.list .int) L 24 0 := by
 refine ⟨enters_of Tryz.func144 (by kernel_rfl) rfl, ?_⟩
 intro w br bv bt str r cs h hlen hv ht hsz d1 d2 d3 d4
 have hbt := ht.lt
 have cv := hv.cell 0
 simp only [gq] at cv
 have hsz' : 0 + 1 ≤ cs.size := by rw [show Shape.sz (.list .int) = 1 from rfl] at hsz; exact hsz
 have HR := hid h
 have HV := hid hv
 have HT := hid ht
 have HG := hid hg
 clear h hv ht hg hsz
 go_enter Tryz.func144, Tryz.ntmps144
 go_wp2_with fail
 refine (HG.out _ br str (some r) HR.out (lim hlen)).mono ?_
 rintro e w1 ⟨v, rfl, hty, hst, hf, htx⟩
 have hb1 := HT.out.fr hf d1
 obtain ⟨zA, zk, zc, rfl⟩ := ty_list hty
 rw [val_list]
 obtain ⟨y0, e0⟩ : ∃ y, w1.cell? ⟨bt, 0, none⟩ = some y := ⟨_, (hb1.cell 0).trans (Array.getElem?_eq_getElem (by omega))⟩
 have f0 := hb1.frozen 0
 have HB1 := hid hb1
 have HTY := hid hty
 have HST := hid hst
 have HF := hid hf
 have HTX := hid htx
 clear hb1 hty hst hf htx
 go_wp2
 go_end0
 exact CloPost.of HTY.out HST.out HF.out HTX.out (HB1.out.set 0 (.slice zA zk zc)) ((Fr.refl _ _).wr _ _) hbt d1 d4
set_option maxHeartbeats 4000000 in
theorem clo_metric_1 (L : Nat) (hg : Reads 145 (.list .int) (L - 1)) : CloR 146 (.list .int) L 24 1 := by
 refine ⟨enters_of Tryz.func146 (by kernel_rfl) rfl, ?_⟩
 intro w br bv bt str r cs h hlen hv ht hsz d1 d2 d3 d4
 have hbt := ht.lt
 have cv := hv.cell 0
 simp only [gq] at cv
 have hsz' : 1 + 1 ≤ cs.size := by rw [show Shape.sz (.list .int) = 1 from rfl] at hsz; exact hsz
 have HR := hid h
 have HV := hid hv
 have HT := hid ht
 have HG := hid hg
 clear h hv ht hg hsz
 go_enter Tryz.func146, Tryz.ntmps146
 go_wp2_with fail
 refine (HG.out _ br str (some r) HR.out (lim hlen)).mono ?_
 rintro e w1 ⟨v, rfl, hty, hst, hf, htx⟩
 have hb1 := HT.out.fr hf d1
 obtain ⟨zA, zk, zc, rfl⟩ := ty_list hty
 rw [val_list]
 obtain ⟨y0, e0⟩ : ∃ y, w1.cell? ⟨bt, 1, none⟩ = some y := ⟨_, (hb1.cell 1).trans (Array.getElem?_eq_getElem (by omega))⟩
 have f0 := hb1.frozen 1
 have HB1 := hid hb1
 have HTY := hid hty
 have HST := hid hst
 have HF := hid hf
 have HTX := hid htx
 clear hb1 hty hst hf htx
 go_wp2
 go_end0
 exact CloPost.of HTY.out HST.out HF.out HTX.out (HB1.out.set 1 (.slice zA zk zc)) ((Fr.refl _ _).wr _ _) hbt d1 d4
set_option maxHeartbeats 4000000 in
theorem clo_typ_0 (L : Nat) (hg : Reads 160 .int (L - 1)) : CloR 292 .int L 92 0 := by
 refine ⟨enters_of Tryz.func292 (by kernel_rfl) rfl, ?_⟩
 intro w br bv bt str r cs h hlen hv ht hsz d1 d2 d3 d4
 have hbt := ht.lt
 have cv := hv.cell 0
 simp only [gq] at cv
 have hsz' : 0 + 1 ≤ cs.size := by rw [show Shape.sz .int = 1 from rfl] at hsz; exact hsz
 have HR := hid h
 have HV := hid hv
 have HT := hid ht
 have HG := hid hg
 clear h hv ht hg hsz
 go_enter Tryz.func292, Tryz.ntmps292
 go_wp2_with fail
 refine (HG.out _ br str (some r) HR.out (lim hlen)).mono ?_
 rintro e w1 ⟨v, rfl, hty, hst, hf, htx⟩
 have hb1 := HT.out.fr hf d1
 obtain ⟨zn, rfl⟩ := ty_int hty
 rw [val_int]
 obtain ⟨y0, e0⟩ : ∃ y, w1.cell? ⟨bt, 0, none⟩ = some y := ⟨_, (hb1.cell 0).trans (Array.getElem?_eq_getElem (by omega))⟩
 have f0 := hb1.frozen 0
 have HB1 := hid hb1
 have HTY := hid hty
 have HST := hid hst
 have HF := hid hf
 have HTX := hid htx
 clear hb1 hty hst hf htx
 go_wp2
 go_end0
 exact CloPost.of HTY.out HST.out HF.out HTX.out (HB1.out.set 0 (.int .i64 zn)) ((Fr.refl _ _).wr _ _) hbt d1 d4
set_option maxHeartbeats 4000000 in
theorem clo_typ_1 (L : Nat) (hg : Reads 160 .int (L - 1)) : CloR 293 .int L 92 1 := by
 refine ⟨enters_of Tryz.func293 (by kernel_rfl) rfl, ?_⟩
 intro w br bv bt str r cs h hlen hv ht hsz d1 d2 d3 d4
 have hbt := ht.lt
 have cv := hv.cell 0
 simp only [gq] at cv
 have hsz' : 1 + 1 ≤ cs.size := by rw [show Shape.sz .int = 1 from rfl] at hsz; exact hsz
 have HR := hid h
 have HV := hid hv
 have HT := hid ht
 have HG := hid hg
 clear h hv ht hg hsz
 go_enter Tryz.func293, Tryz.ntmps293
 go_wp2_with fail
 refine (HG.out _ br str (some r) HR.out (lim hlen)).mono ?_
 rintro e w1 ⟨v, rfl, hty, hst, hf, htx⟩
 have hb1 := HT.out.fr hf d1
 obtain ⟨zn, rfl⟩ := ty_int hty
 rw [val_int]
 obtain ⟨y0, e0⟩ : ∃ y, w1.cell? ⟨bt, 1, none⟩ = some y := ⟨_, (hb1.cell 1).trans (Array.getElem?_eq_getElem (by omega))⟩
 have f0 := hb1.frozen 1
 have HB1 := hid hb1
 have HTY := hid hty
 have HST := hid hst
 have HF := hid hf
 have HTX := hid htx
 clear hb1 hty hst hf htx
 go_wp2
 go_end0
 exact CloPost.of HTY.out HST.out HF.out HTX.out (HB1.out.set 1 (.int .i64 zn)) ((Fr.refl _ _).wr _ _) hbt d1 d4
set_option maxHeartbeats 4000000 in
theorem clo_typ_2 (n : Nat) (L : Nat) (hg : Reads 233 (typS n) (L - 1)) : CloR 294 (.list (typS n)) L 92 2 := by
 refine ⟨enters_of Tryz.func294 (by kernel_rfl) rfl, ?_⟩
 intro w br bv bt str r cs h hlen hv ht hsz d1 d2 d3 d4
 have hbt := ht.lt
 have cv := hv.cell 0
 simp only [gq] at cv
 have hsz' : 2 + 1 ≤ cs.size := by rw [show Shape.sz (.list (typS n)) = 1 from rfl] at hsz; exact hsz
 have HR := hid h
 have HV := hid hv
 have HT := hid ht
 have HG := hid hg
 clear h hv ht hg hsz
 go_enter Tryz.func294, Tryz.ntmps294
 go_wp2_with fail
 refine (el_typ n (L - 1) _ _ _ _ br str (some r) HR.out (lim hlen) (ElR.meth (enters_of Tryz.func233 (by kernel_rfl) rfl) HG.out br str _)).mono ?_
 rintro e w1 ⟨v, rfl, hty, hst, hf, htx⟩
 have hb1 := HT.out.fr hf d1
 obtain ⟨zA, zk, zc, rfl⟩ := ty_list hty
 rw [val_list]
 obtain ⟨y0, e0⟩ : ∃ y, w1.cell? ⟨bt, 2, none⟩ = some y := ⟨_, (hb1.cell 2).trans (Array.getElem?_eq_getElem (by omega))⟩
 have f0 := hb1.frozen 2
 have HB1 := hid hb1
 have HTY := hid hty
 have HST := hid hst
 have HF := hid hf
 have HTX := hid htx
 clear hb1 hty hst hf htx
 go_wp2
 go_end0
 exact CloPost.of HTY.out HST.out HF.out HTX.out (HB1.out.set 2 (.slice zA zk zc)) ((Fr.refl _ _).wr _ _) hbt d1 d4
set_option maxHeartbeats 4000000 in
theorem clo_store_0 (n : Nat) (L : Nat) (hg : Reads 233 (typS n) (L - 1)) : CloR 232 (typS n) L 94 0 := by
 refine ⟨enters_of Tryz.func232 (by kernel_rfl) rfl, ?_⟩
 intro w br bv bt str r cs h hlen hv ht hsz d1 d2 d3 d4
 have hbt := ht.lt
 have cv := hv.cell 0
 simp only [gq] at cv
 have hsz' : 0 + 3 ≤ cs.size := by rw [show Shape.sz (typS n) = 3 from sz_typ] at hsz; exact hsz
 have HR := hid h
 have HV := hid hv
 have HT := hid ht
 have HG := hid hg
 clear h hv ht hg hsz
 go_enter Tryz.func232, Tryz.ntmps232
 go_wp2_with fail
 refine (HG.out _ br str (some r) HR.out (lim hlen)).mono ?_
 rintro e w1 ⟨v, rfl, hty, hst, hf, htx⟩
 have hb1 := HT.out.fr hf d1
 obtain ⟨z0n, z1n, z2A, z2k, z2c, rfl⟩ := ty_typ hty
 rw [val_typ]
 obtain ⟨y0, e0⟩ : ∃ y, w1.cell? ⟨bt, 0, none⟩ = some y := ⟨_, (hb1.cell 0).trans (Array.getElem?_eq_getElem (by omega))⟩
 have f0 := hb1.frozen 0
 obtain ⟨y1, e1⟩ : ∃ y, w1.cell? ⟨bt, 1, none⟩ = some y := ⟨_, (hb1.cell 1).trans (Array.getElem?_eq_getElem (by omega))⟩
 have f1 := hb1.frozen 1
 obtain ⟨y2, e2⟩ : ∃ y, w1.cell? ⟨bt, 2, none⟩ = some y := ⟨_, (hb1.cell 2).trans (Array.getElem?_eq_getElem (by omega))⟩
 have f2 := hb1.frozen 2
 have HB1 := hid hb1
 have HTY := hid hty
 have HST := hid hst
 have HF := hid hf
 have HTX := hid htx
 clear hb1 hty hst hf htx
 go_wp2
 go_end0
 exact CloPost.of HTY.out HST.out HF.out HTX.out (((HB1.out.set 0 (.int .i64 z0n)).set 1 (.int .i64 z1n)).set 2 (.slice z2A z2k z2c)) ((((Fr.refl _ _).wr _ _).wr _ _).wr _ _) hbt d1 d4
set_option maxHeartbeats 4000000 in
theorem clo_store_1 (L : Nat) (hg : Reads 154 (.list .int) (L - 1)) : CloR 234 (.list .int) L 94 3 := by
 refine ⟨enters_of Tryz.func234 (by kernel_rfl) rfl, ?_⟩
 intro w br bv bt str r cs h hlen hv ht hsz d1 d2 d3 d4
 have hbt := ht.lt
 have cv := hv.cell 0
 simp only [gq] at cv
 have hsz' : 3 + 1 ≤ cs.size := by rw [show Shape.sz (.list .int) = 1 from rfl] at hsz; exact hsz
 have HR := hid h
 have HV := hid hv
 have HT := hid ht
 have HG := hid hg
 clear h hv ht hg hsz
 go_enter Tryz.func234, Tryz.ntmps234
 go_wp2_with fail
 refine (HG.out _ br str (some r) HR.out (lim hlen)).mono ?_
 rintro e w1 ⟨v, rfl, hty, hst, hf, htx⟩
 have hb1 := HT.out.fr hf d1
 obtain ⟨zA, zk, zc, rfl⟩ := ty_list hty
 rw [val_list]
 obtain ⟨y0, e0⟩ : ∃ y, w1.cell? ⟨bt, 3, none⟩ = some y := ⟨_, (hb1.cell 3).trans (Array.getElem?_eq_getElem (by omega))⟩
 have f0 := hb1.frozen 3
 have HB1 := hid hb1
 have HTY := hid hty
 have HST := hid hst
 have HF := hid hf
 have HTX := hid htx
 clear hb1 hty hst hf htx
 go_wp2
 go_end0
 exact CloPost.of HTY.out HST.out HF.out HTX.out (HB1.out.set 3 (.slice zA zk zc)) ((Fr.refl _ _).wr _ _) hbt d1 d4
set_option maxHeartbeats 4000000 in
theorem clo_flow_0 (L : Nat) (hg : Reads 154 (.list .int) (L - 1)) : CloR 152 (.list (.list .int)) L 29 0 := by
 refine ⟨enters_of Tryz.func152 (by kernel_rfl) rfl, ?_⟩
 intro w br bv bt str r cs h hlen hv ht hsz d1 d2 d3 d4
 have hbt := ht.lt
 have cv := hv.cell 0
 simp only [gq] at cv
 have hsz' : 0 + 1 ≤ cs.size := by rw [show Shape.sz (.list (.list .int)) = 1 from rfl] at hsz; exact hsz
 have HR := hid h
 have HV := hid hv
 have HT := hid ht
 have HG := hid hg
 clear h hv ht hg hsz
 go_enter Tryz.func152, Tryz.ntmps152
 go_wp2_with fail
 refine (el_l_int (L - 1) _ _ _ _ br str (some r) HR.out (lim hlen) (ElR.meth (enters_of Tryz.func154 (by kernel_rfl) rfl) HG.out br str _)).mono ?_
 rintro e w1 ⟨v, rfl, hty, hst, hf, htx⟩
 have hb1 := HT.out.fr hf d1
 obtain ⟨zA, zk, zc, rfl⟩ := ty_list hty
 rw [val_list]
 obtain ⟨y0, e0⟩ : ∃ y, w1.cell? ⟨bt, 0, none⟩ = some y := ⟨_, (hb1.cell 0).trans (Array.getElem?_eq_getElem (by omega))⟩
 have f0 := hb1.frozen 0
 have HB1 := hid hb1
 have HTY := hid hty
 have HST := hid hst
 have HF := hid hf
 have HTX := hid htx
 clear hb1 hty hst hf htx
 go_wp2
 go_end0
 exact CloPost.of HTY.out HST.out HF.out HTX.out (HB1.out.set 0 (.slice zA zk zc)) ((Fr.refl _ _).wr _ _) hbt d1 d4
set_option maxHeartbeats 4000000 in
theorem clo_flow_1 (L : Nat) (hg : Reads 154 (.list .int) (L - 1)) : CloR 155 (.list (.list .int)) L 29 1 := by
 refine ⟨enters_of Tryz.func155 (by kernel_rfl) rfl, ?_⟩
 intro w br bv bt str r cs h hlen hv ht hsz d1 d2 d3 d4
 have hbt := ht.lt
 have cv := hv.cell 0
 simp only [gq] at cv
 have hsz' : 1 + 1 ≤ cs.size := by rw [show Shape.sz (.list (.list .int)) = 1 from rfl] at hsz; exact hsz
 have HR := hid h
 have HV := hid hv
 have HT := hid ht
 have HG := hid hg
 clear h hv ht hg hsz
 go_enter Tryz.func155, Tryz.ntmps155
 go_wp2_with fail
 refine (el_l_int (L - 1) _ _ _ _ br str (some r) HR.out (lim hlen) (ElR.meth (enters_of Tryz.func154 (by kernel_rfl) rfl) HG.out br str _)).mono ?_
 rintro e w1 ⟨v, rfl, hty, hst, hf, htx⟩
 have hb1 := HT.out.fr hf d1
 obtain ⟨zA, zk, zc, rfl⟩ := ty_list hty
 rw [val_list]
 obtain ⟨y0, e0⟩ : ∃ y, w1.cell? ⟨bt, 1, none⟩ = some y := ⟨_, (hb1.cell 1).trans (Array.getElem?_eq_getElem (by omega))⟩
 have f0 := hb1.frozen 1
 have HB1 := hid hb1
 have HTY := hid hty
 have HST := hid hst
 have HF := hid hf
 have HTX := hid htx
 clear hb1 hty hst hf htx
 go_wp2
 go_end0
 exact CloPost.of HTY.out HST.out HF.out HTX.out (HB1.out.set 1 (.slice zA zk zc)) ((Fr.refl _ _).wr _ _) hbt d1 d4
set_option maxHeartbeats 4000000 in
theorem clo_flow_2 (n : Nat) (L : Nat) (hg : Reads 158 (storeS n) (L - 1)) : CloR 156 (.list (storeS n)) L 29 2 := by
 refine ⟨enters_of Tryz.func156 (by kernel_rfl) rfl, ?_⟩
 intro w br bv bt str r cs h hlen hv ht hsz d1 d2 d3 d4
 have hbt := ht.lt
 have cv := hv.cell 0
 simp only [gq] at cv
 have hsz' : 2 + 1 ≤ cs.size := by rw [show Shape.sz (.list (storeS n)) = 1 from rfl] at hsz; exact hsz
 have HR := hid h
 have HV := hid hv
 have HT := hid ht
 have HG := hid hg
 clear h hv ht hg hsz
 go_enter Tryz.func156, Tryz.ntmps156
 go_wp2_with fail
 refine (el_store n (L - 1) _ _ _ _ br str (some r) HR.out (lim hlen) (ElR.meth (enters_of Tryz.func158 (by kernel_rfl) rfl) HG.out br str _)).mono ?_
 rintro e w1 ⟨v, rfl, hty, hst, hf, htx⟩
 have hb1 := HT.out.fr hf d1
 obtain ⟨zA, zk, zc, rfl⟩ := ty_list hty
 rw [val_list]
 obtain ⟨y0, e0⟩ : ∃ y, w1.cell? ⟨bt, 2, none⟩ = some y := ⟨_, (hb1.cell 2).trans (Array.getElem?_eq_getElem (by omega))⟩
 have f0 := hb1.frozen 2
 have HB1 := hid hb1
 have HTY := hid hty
 have HST := hid hst
 have HF := hid hf
 have HTX := hid htx
 clear hb1 hty hst hf htx
 go_wp2
 go_end0
 exact CloPost.of HTY.out HST.out HF.out HTX.out (HB1.out.set 2 (.slice zA zk zc)) ((Fr.refl _ _).wr _ _) hbt d1 d4
set_option maxHeartbeats 4000000 in
theorem clo_index_0 (L : Nat) (hg : Reads 160 .int (L - 1)) : CloR 357 .int L 125 0 := by
 refine ⟨enters_of Tryz.func357 (by kernel_rfl) rfl, ?_⟩
 intro w br bv bt str r cs h hlen hv ht hsz d1 d2 d3 d4
 have hbt := ht.lt
 have cv := hv.cell 0
 simp only [gq] at cv
 have hsz' : 0 + 1 ≤ cs.size := by rw [show Shape.sz .int = 1 from rfl] at hsz; exact hsz
 have HR := hid h
 have HV := hid hv
 have HT := hid ht
 have HG := hid hg
 clear h hv ht hg hsz
 go_enter Tryz.func357, Tryz.ntmps357
 go_wp2_with fail
 refine (HG.out _ br str (some r) HR.out (lim hlen)).mono ?_
 rintro e w1 ⟨v, rfl, hty, hst, hf, htx⟩
 have hb1 := HT.out.fr hf d1
 obtain ⟨zn, rfl⟩ := ty_int hty
 rw [val_int]
 obtain ⟨y0, e0⟩ : ∃ y, w1.cell? ⟨bt, 0, none⟩ = some y := ⟨_, (hb1.cell 0).trans (Array.getElem?_eq_getElem (by omega))⟩
 have f0 := hb1.frozen 0
 have HB1 := hid hb1
 have HTY := hid hty
 have HST := hid hst
 have HF := hid hf
 have HTX := hid htx
 clear hb1 hty hst hf htx
 go_wp2
 go_end0
 exact CloPost.of HTY.out HST.out HF.out HTX.out (HB1.out.set 0 (.int .i64 zn)) ((Fr.refl _ _).wr _ _) hbt d1 d4
set_option maxHeartbeats 4000000 in
theorem clo_index_1 (n : Nat) (L : Nat) (hg : Reads 333 (indexS n) (L - 1)) : CloR 358 (.list (indexS n)) L 125 1 := by
 refine ⟨enters_of Tryz.func358 (by kernel_rfl) rfl, ?_⟩
 intro w br bv bt str r cs h hlen hv ht hsz d1 d2 d3 d4
 have hbt := ht.lt
 have cv := hv.cell 0
 simp only [gq] at cv
 have hsz' : 1 + 1 ≤ cs.size := by rw [show Shape.sz (.list (indexS n)) = 1 from rfl] at hsz; exact hsz
 have HR := hid h
 have HV := hid hv
 have HT := hid ht
 have HG := hid hg
 clear h hv ht hg hsz
 go_enter Tryz.func358, Tryz.ntmps358
 go_wp2_with fail
 refine (el_index n (L - 1) _ _ _ _ br str (some r) HR.out (lim hlen) (ElR.meth (enters_of Tryz.func333 (by kernel_rfl) rfl) HG.out br str _)).mono ?_
 rintro e w1 ⟨v, rfl, hty, hst, hf, htx⟩
 have hb1 := HT.out.fr hf d1
 obtain ⟨zA, zk, zc, rfl⟩ := ty_list hty
 rw [val_list]
 obtain ⟨y0, e0⟩ : ∃ y, w1.cell? ⟨bt, 1, none⟩ = some y := ⟨_, (hb1.cell 1).trans (Array.getElem?_eq_getElem (by omega))⟩
 have f0 := hb1.frozen 1
 have HB1 := hid hb1
 have HTY := hid hty
 have HST := hid hst
 have HF := hid hf
 have HTX := hid htx
 clear hb1 hty hst hf htx
 go_wp2
 go_end0
 exact CloPost.of HTY.out HST.out HF.out HTX.out (HB1.out.set 1 (.slice zA zk zc)) ((Fr.refl _ _).wr _ _) hbt d1 d4
set_option maxHeartbeats 4000000 in
theorem clo_factor_0 (L : Nat) (hg : Reads 160 .int (L - 1)) : CloR 331 .int L 127 0 := by
 refine ⟨enters_of Tryz.func331 (by kernel_rfl) rfl, ?_⟩
 intro w br bv bt str r cs h hlen hv ht hsz d1 d2 d3 d4
 have hbt := ht.lt
 have cv := hv.cell 0
 simp only [gq] at cv
 have hsz' : 0 + 1 ≤ cs.size := by rw [show Shape.sz .int = 1 from rfl] at hsz; exact hsz
 have HR := hid h
 have HV := hid hv
 have HT := hid ht
 have HG := hid hg
 clear h hv ht hg hsz
 go_enter Tryz.func331, Tryz.ntmps331
 go_wp2_with fail
 refine (HG.out _ br str (some r) HR.out (lim hlen)).mono ?_
 rintro e w1 ⟨v, rfl, hty, hst, hf, htx⟩
 have hb1 := HT.out.fr hf d1
 obtain ⟨zn, rfl⟩ := ty_int hty
 rw [val_int]
 obtain ⟨y0, e0⟩ : ∃ y, w1.cell? ⟨bt, 0, none⟩ = some y := ⟨_, (hb1.cell 0).trans (Array.getElem?_eq_getElem (by omega))⟩
 have f0 := hb1.frozen 0
 have HB1 := hid hb1
 have HTY := hid hty
 have HST := hid hst
 have HF := hid hf
 have HTX := hid htx
 clear hb1 hty hst hf htx
 go_wp2
 go_end0
 exact CloPost.of HTY.out HST.out HF.out HTX.out (HB1.out.set 0 (.int .i64 zn)) ((Fr.refl _ _).wr _ _) hbt d1 d4
set_option maxHeartbeats 4000000 in
theorem clo_factor_1 (n : Nat) (L : Nat) (hg : Reads 333 (indexS n) (L - 1)) : CloR 332 (indexS n) L 127 1 := by
 refine ⟨enters_of Tryz.func332 (by kernel_rfl) rfl, ?_⟩
 intro w br bv bt str r cs h hlen hv ht hsz d1 d2 d3 d4
 have hbt := ht.lt
 have cv := hv.cell 0
 simp only [gq] at cv
 have hsz' : 1 + 2 ≤ cs.size := by rw [show Shape.sz (indexS n) = 2 from sz_index] at hsz; exact hsz
 have HR := hid h
 have HV := hid hv
 have HT := hid ht
 have HG := hid hg
 clear h hv ht hg hsz
 go_enter Tryz.func332, Tryz.ntmps332
 go_wp2_with fail
 refine (HG.out _ br str (some r) HR.out (lim hlen)).mono ?_
 rintro e w1 ⟨v, rfl, hty, hst, hf, htx⟩
 have hb1 := HT.out.fr hf d1
 obtain ⟨z0n, z1A, z1k, z1c, rfl⟩ := ty_index hty
 rw [val_index]
 obtain ⟨y0, e0⟩ : ∃ y, w1.cell? ⟨bt, 1, none⟩ = some y := ⟨_, (hb1.cell 1).trans (Array.getElem?_eq_getElem (by omega))⟩
 have f0 := hb1.frozen 1
 obtain ⟨y1, e1⟩ : ∃ y, w1.cell? ⟨bt, 2, none⟩ = some y := ⟨_, (hb1.cell 2).trans (Array.getElem?_eq_getElem (by omega))⟩
 have f1 := hb1.frozen 2
 have HB1 := hid hb1
 have HTY := hid hty
 have HST := hid hst
 have HF := hid hf
 have HTX := hid htx
 clear hb1 hty hst hf htx
 go_wp2
 go_end0
 exact CloPost.of HTY.out HST.out HF.out HTX.out ((HB1.out.set 1 (.int .i64 z0n)).set 2 (.slice z1A z1k z1c)) (((Fr.refl _ _).wr _ _).wr _ _) hbt d1 d4
set_option maxHeartbeats 4000000 in
theorem clo_atom_0 (L : Nat) (hg : Reads 150 linS (L - 1)) : CloR 334 linS L 132 0 := by
 refine ⟨enters_of Tryz.func334 (by kernel_rfl) rfl, ?_⟩
 intro w br bv bt str r cs h hlen hv ht hsz d1 d2 d3 d4
 have hbt := ht.lt
 have cv := hv.cell 0
 simp only [gq] at cv
 have hsz' : 0 + 2 ≤ cs.size := by rw [show Shape.sz linS = 2 from sz_lin] at hsz; exact hsz
 have HR := hid h
 have HV := hid hv
 have HT := hid ht
 have HG := hid hg
 clear h hv ht hg hsz
 go_enter Tryz.func334, Tryz.ntmps334
 go_wp2_with fail
 refine (HG.out _ br str (some r) HR.out (lim hlen)).mono ?_
 rintro e w1 ⟨v, rfl, hty, hst, hf, htx⟩
 have hb1 := HT.out.fr hf d1
 obtain ⟨z0n, z1A, z1k, z1c, rfl⟩ := ty_lin hty
 rw [val_lin]
 obtain ⟨y0, e0⟩ : ∃ y, w1.cell? ⟨bt, 0, none⟩ = some y := ⟨_, (hb1.cell 0).trans (Array.getElem?_eq_getElem (by omega))⟩
 have f0 := hb1.frozen 0
 obtain ⟨y1, e1⟩ : ∃ y, w1.cell? ⟨bt, 1, none⟩ = some y := ⟨_, (hb1.cell 1).trans (Array.getElem?_eq_getElem (by omega))⟩
 have f1 := hb1.frozen 1
 have HB1 := hid hb1
 have HTY := hid hty
 have HST := hid hst
 have HF := hid hf
 have HTX := hid htx
 clear hb1 hty hst hf htx
 go_wp2
 go_end0
 exact CloPost.of HTY.out HST.out HF.out HTX.out ((HB1.out.set 0 (.int .i64 z0n)).set 1 (.slice z1A z1k z1c)) (((Fr.refl _ _).wr _ _).wr _ _) hbt d1 d4
set_option maxHeartbeats 4000000 in
theorem clo_atom_1 (L : Nat) (hg : Reads 160 .int (L - 1)) : CloR 335 .int L 132 2 := by
 refine ⟨enters_of Tryz.func335 (by kernel_rfl) rfl, ?_⟩
 intro w br bv bt str r cs h hlen hv ht hsz d1 d2 d3 d4
 have hbt := ht.lt
 have cv := hv.cell 0
 simp only [gq] at cv
 have hsz' : 2 + 1 ≤ cs.size := by rw [show Shape.sz .int = 1 from rfl] at hsz; exact hsz
 have HR := hid h
 have HV := hid hv
 have HT := hid ht
 have HG := hid hg
 clear h hv ht hg hsz
 go_enter Tryz.func335, Tryz.ntmps335
 go_wp2_with fail
 refine (HG.out _ br str (some r) HR.out (lim hlen)).mono ?_
 rintro e w1 ⟨v, rfl, hty, hst, hf, htx⟩
 have hb1 := HT.out.fr hf d1
 obtain ⟨zn, rfl⟩ := ty_int hty
 rw [val_int]
 obtain ⟨y0, e0⟩ : ∃ y, w1.cell? ⟨bt, 2, none⟩ = some y := ⟨_, (hb1.cell 2).trans (Array.getElem?_eq_getElem (by omega))⟩
 have f0 := hb1.frozen 2
 have HB1 := hid hb1
 have HTY := hid hty
 have HST := hid hst
 have HF := hid hf
 have HTX := hid htx
 clear hb1 hty hst hf htx
 go_wp2
 go_end0
 exact CloPost.of HTY.out HST.out HF.out HTX.out (HB1.out.set 2 (.int .i64 zn)) ((Fr.refl _ _).wr _ _) hbt d1 d4
set_option maxHeartbeats 4000000 in
theorem clo_mono_0 (n : Nat) (L : Nat) (hg : Reads 299 (factorS n) (L - 1)) : CloR 297 (.list (factorS n)) L 64 0 := by
 refine ⟨enters_of Tryz.func297 (by kernel_rfl) rfl, ?_⟩
 intro w br bv bt str r cs h hlen hv ht hsz d1 d2 d3 d4
 have hbt := ht.lt
 have cv := hv.cell 0
 simp only [gq] at cv
 have hsz' : 0 + 1 ≤ cs.size := by rw [show Shape.sz (.list (factorS n)) = 1 from rfl] at hsz; exact hsz
 have HR := hid h
 have HV := hid hv
 have HT := hid ht
 have HG := hid hg
 clear h hv ht hg hsz
 go_enter Tryz.func297, Tryz.ntmps297
 go_wp2_with fail
 refine (el_factor n (L - 1) _ _ _ _ br str (some r) HR.out (lim hlen) (ElR.meth (enters_of Tryz.func299 (by kernel_rfl) rfl) HG.out br str _)).mono ?_
 rintro e w1 ⟨v, rfl, hty, hst, hf, htx⟩
 have hb1 := HT.out.fr hf d1
 obtain ⟨zA, zk, zc, rfl⟩ := ty_list hty
 rw [val_list]
 obtain ⟨y0, e0⟩ : ∃ y, w1.cell? ⟨bt, 0, none⟩ = some y := ⟨_, (hb1.cell 0).trans (Array.getElem?_eq_getElem (by omega))⟩
 have f0 := hb1.frozen 0
 have HB1 := hid hb1
 have HTY := hid hty
 have HST := hid hst
 have HF := hid hf
 have HTX := hid htx
 clear hb1 hty hst hf htx
 go_wp2
 go_end0
 exact CloPost.of HTY.out HST.out HF.out HTX.out (HB1.out.set 0 (.slice zA zk zc)) ((Fr.refl _ _).wr _ _) hbt d1 d4
set_option maxHeartbeats 4000000 in
theorem clo_mono_1 (L : Nat) (hg : Reads 302 atomS (L - 1)) : CloR 300 (.list atomS) L 64 1 := by
 refine ⟨enters_of Tryz.func300 (by kernel_rfl) rfl, ?_⟩
 intro w br bv bt str r cs h hlen hv ht hsz d1 d2 d3 d4
 have hbt := ht.lt
 have cv := hv.cell 0
 simp only [gq] at cv
 have hsz' : 1 + 1 ≤ cs.size := by rw [show Shape.sz (.list atomS) = 1 from rfl] at hsz; exact hsz
 have HR := hid h
 have HV := hid hv
 have HT := hid ht
 have HG := hid hg
 clear h hv ht hg hsz
 go_enter Tryz.func300, Tryz.ntmps300
 go_wp2_with fail
 refine (el_atom (L - 1) _ _ _ _ br str (some r) HR.out (lim hlen) (ElR.meth (enters_of Tryz.func302 (by kernel_rfl) rfl) HG.out br str _)).mono ?_
 rintro e w1 ⟨v, rfl, hty, hst, hf, htx⟩
 have hb1 := HT.out.fr hf d1
 obtain ⟨zA, zk, zc, rfl⟩ := ty_list hty
 rw [val_list]
 obtain ⟨y0, e0⟩ : ∃ y, w1.cell? ⟨bt, 1, none⟩ = some y := ⟨_, (hb1.cell 1).trans (Array.getElem?_eq_getElem (by omega))⟩
 have f0 := hb1.frozen 1
 have HB1 := hid hb1
 have HTY := hid hty
 have HST := hid hst
 have HF := hid hf
 have HTX := hid htx
 clear hb1 hty hst hf htx
 go_wp2
 go_end0
 exact CloPost.of HTY.out HST.out HF.out HTX.out (HB1.out.set 1 (.slice zA zk zc)) ((Fr.refl _ _).wr _ _) hbt d1 d4
set_option maxHeartbeats 4000000 in
theorem clo_term_0 (L : Nat) (hg : Reads 236 .rat (L - 1)) : CloR 235 .rat L 121 0 := by
 refine ⟨enters_of Tryz.func235 (by kernel_rfl) rfl, ?_⟩
 intro w br bv bt str r cs h hlen hv ht hsz d1 d2 d3 d4
 have hbt := ht.lt
 have cv := hv.cell 0
 simp only [gq] at cv
 have hsz' : 0 + 3 ≤ cs.size := by rw [show Shape.sz .rat = 3 from rfl] at hsz; exact hsz
 have HR := hid h
 have HV := hid hv
 have HT := hid ht
 have HG := hid hg
 clear h hv ht hg hsz
 go_enter Tryz.func235, Tryz.ntmps235
 go_wp2_with fail
 refine (HG.out _ br str (some r) HR.out (lim hlen)).mono ?_
 rintro e w1 ⟨v, rfl, hty, hst, hf, htx⟩
 have hb1 := HT.out.fr hf d1
 obtain ⟨zb, zA, zk, zc, zD, zl, zd, rfl⟩ := ty_rat hty
 rw [val_rat]
 obtain ⟨y0, e0⟩ : ∃ y, w1.cell? ⟨bt, 0, none⟩ = some y := ⟨_, (hb1.cell 0).trans (Array.getElem?_eq_getElem (by omega))⟩
 have f0 := hb1.frozen 0
 obtain ⟨y1, e1⟩ : ∃ y, w1.cell? ⟨bt, 1, none⟩ = some y := ⟨_, (hb1.cell 1).trans (Array.getElem?_eq_getElem (by omega))⟩
 have f1 := hb1.frozen 1
 obtain ⟨y2, e2⟩ : ∃ y, w1.cell? ⟨bt, 2, none⟩ = some y := ⟨_, (hb1.cell 2).trans (Array.getElem?_eq_getElem (by omega))⟩
 have f2 := hb1.frozen 2
 have HB1 := hid hb1
 have HTY := hid hty
 have HST := hid hst
 have HF := hid hf
 have HTX := hid htx
 clear hb1 hty hst hf htx
 go_wp2
 go_end0
 exact CloPost.of HTY.out HST.out HF.out HTX.out (((HB1.out.set 0 (.bool zb)).set 1 (.slice zA zk zc)).set 2 (.slice zD zl zd)) ((((Fr.refl _ _).wr _ _).wr _ _).wr _ _) hbt d1 d4
set_option maxHeartbeats 4000000 in
theorem clo_term_1 (n : Nat) (L : Nat) (hg : Reads 238 (monoS n) (L - 1)) : CloR 237 (monoS n) L 121 3 := by
 refine ⟨enters_of Tryz.func237 (by kernel_rfl) rfl, ?_⟩
 intro w br bv bt str r cs h hlen hv ht hsz d1 d2 d3 d4
 have hbt := ht.lt
 have cv := hv.cell 0
 simp only [gq] at cv
 have hsz' : 3 + 2 ≤ cs.size := by rw [show Shape.sz (monoS n) = 2 from sz_mono] at hsz; exact hsz
 have HR := hid h
 have HV := hid hv
 have HT := hid ht
 have HG := hid hg
 clear h hv ht hg hsz
 go_enter Tryz.func237, Tryz.ntmps237
 go_wp2_with fail
 refine (HG.out _ br str (some r) HR.out (lim hlen)).mono ?_
 rintro e w1 ⟨v, rfl, hty, hst, hf, htx⟩
 have hb1 := HT.out.fr hf d1
 obtain ⟨z0A, z0k, z0c, z1A, z1k, z1c, rfl⟩ := ty_mono hty
 rw [val_mono]
 obtain ⟨y0, e0⟩ : ∃ y, w1.cell? ⟨bt, 3, none⟩ = some y := ⟨_, (hb1.cell 3).trans (Array.getElem?_eq_getElem (by omega))⟩
 have f0 := hb1.frozen 3
 obtain ⟨y1, e1⟩ : ∃ y, w1.cell? ⟨bt, 4, none⟩ = some y := ⟨_, (hb1.cell 4).trans (Array.getElem?_eq_getElem (by omega))⟩
 have f1 := hb1.frozen 4
 have HB1 := hid hb1
 have HTY := hid hty
 have HST := hid hst
 have HF := hid hf
 have HTX := hid htx
 clear hb1 hty hst hf htx
 go_wp2
 go_end0
 exact CloPost.of HTY.out HST.out HF.out HTX.out ((HB1.out.set 3 (.slice z0A z0k z0c)).set 4 (.slice z1A z1k z1c)) (((Fr.refl _ _).wr _ _).wr _ _) hbt d1 d4
set_option maxHeartbeats 4000000 in
theorem clo_use_0 (L : Nat) (hg : Reads 160 .int (L - 1)) : CloR 303 .int L 73 0 := by
 refine ⟨enters_of Tryz.func303 (by kernel_rfl) rfl, ?_⟩
 intro w br bv bt str r cs h hlen hv ht hsz d1 d2 d3 d4
 have hbt := ht.lt
 have cv := hv.cell 0
 simp only [gq] at cv
 have hsz' : 0 + 1 ≤ cs.size := by rw [show Shape.sz .int = 1 from rfl] at hsz; exact hsz
 have HR := hid h
 have HV := hid hv
 have HT := hid ht
 have HG := hid hg
 clear h hv ht hg hsz
 go_enter Tryz.func303, Tryz.ntmps303
 go_wp2_with fail
 refine (HG.out _ br str (some r) HR.out (lim hlen)).mono ?_
 rintro e w1 ⟨v, rfl, hty, hst, hf, htx⟩
 have hb1 := HT.out.fr hf d1
 obtain ⟨zn, rfl⟩ := ty_int hty
 rw [val_int]
 obtain ⟨y0, e0⟩ : ∃ y, w1.cell? ⟨bt, 0, none⟩ = some y := ⟨_, (hb1.cell 0).trans (Array.getElem?_eq_getElem (by omega))⟩
 have f0 := hb1.frozen 0
 have HB1 := hid hb1
 have HTY := hid hty
 have HST := hid hst
 have HF := hid hf
 have HTX := hid htx
 clear hb1 hty hst hf htx
 go_wp2
 go_end0
 exact CloPost.of HTY.out HST.out HF.out HTX.out (HB1.out.set 0 (.int .i64 zn)) ((Fr.refl _ _).wr _ _) hbt d1 d4
set_option maxHeartbeats 4000000 in
theorem clo_use_1 (L : Nat) (hg : Reads 236 .rat (L - 1)) : CloR 304 .rat L 73 1 := by
 refine ⟨enters_of Tryz.func304 (by kernel_rfl) rfl, ?_⟩
 intro w br bv bt str r cs h hlen hv ht hsz d1 d2 d3 d4
 have hbt := ht.lt
 have cv := hv.cell 0
 simp only [gq] at cv
 have hsz' : 1 + 3 ≤ cs.size := by rw [show Shape.sz .rat = 3 from rfl] at hsz; exact hsz
 have HR := hid h
 have HV := hid hv
 have HT := hid ht
 have HG := hid hg
 clear h hv ht hg hsz
 go_enter Tryz.func304, Tryz.ntmps304
 go_wp2_with fail
 refine (HG.out _ br str (some r) HR.out (lim hlen)).mono ?_
 rintro e w1 ⟨v, rfl, hty, hst, hf, htx⟩
 have hb1 := HT.out.fr hf d1
 obtain ⟨zb, zA, zk, zc, zD, zl, zd, rfl⟩ := ty_rat hty
 rw [val_rat]
 obtain ⟨y0, e0⟩ : ∃ y, w1.cell? ⟨bt, 1, none⟩ = some y := ⟨_, (hb1.cell 1).trans (Array.getElem?_eq_getElem (by omega))⟩
 have f0 := hb1.frozen 1
 obtain ⟨y1, e1⟩ : ∃ y, w1.cell? ⟨bt, 2, none⟩ = some y := ⟨_, (hb1.cell 2).trans (Array.getElem?_eq_getElem (by omega))⟩
 have f1 := hb1.frozen 2
 obtain ⟨y2, e2⟩ : ∃ y, w1.cell? ⟨bt, 3, none⟩ = some y := ⟨_, (hb1.cell 3).trans (Array.getElem?_eq_getElem (by omega))⟩
 have f2 := hb1.frozen 3
 have HB1 := hid hb1
 have HTY := hid hty
 have HST := hid hst
 have HF := hid hf
 have HTX := hid htx
 clear hb1 hty hst hf htx
 go_wp2
 go_end0
 exact CloPost.of HTY.out HST.out HF.out HTX.out (((HB1.out.set 1 (.bool zb)).set 2 (.slice zA zk zc)).set 3 (.slice zD zl zd)) ((((Fr.refl _ _).wr _ _).wr _ _).wr _ _) hbt d1 d4
set_option maxHeartbeats 4000000 in
theorem clo_use_2 (n : Nat) (L : Nat) (hg : Reads 238 (monoS n) (L - 1)) : CloR 305 (monoS n) L 73 4 := by
 refine ⟨enters_of Tryz.func305 (by kernel_rfl) rfl, ?_⟩
 intro w br bv bt str r cs h hlen hv ht hsz d1 d2 d3 d4
 have hbt := ht.lt
 have cv := hv.cell 0
 simp only [gq] at cv
 have hsz' : 4 + 2 ≤ cs.size := by rw [show Shape.sz (monoS n) = 2 from sz_mono] at hsz; exact hsz
 have HR := hid h
 have HV := hid hv
 have HT := hid ht
 have HG := hid hg
 clear h hv ht hg hsz
 go_enter Tryz.func305, Tryz.ntmps305
 go_wp2_with fail
 refine (HG.out _ br str (some r) HR.out (lim hlen)).mono ?_
 rintro e w1 ⟨v, rfl, hty, hst, hf, htx⟩
 have hb1 := HT.out.fr hf d1
 obtain ⟨z0A, z0k, z0c, z1A, z1k, z1c, rfl⟩ := ty_mono hty
 rw [val_mono]
 obtain ⟨y0, e0⟩ : ∃ y, w1.cell? ⟨bt, 4, none⟩ = some y := ⟨_, (hb1.cell 4).trans (Array.getElem?_eq_getElem (by omega))⟩
 have f0 := hb1.frozen 4
 obtain ⟨y1, e1⟩ : ∃ y, w1.cell? ⟨bt, 5, none⟩ = some y := ⟨_, (hb1.cell 5).trans (Array.getElem?_eq_getElem (by omega))⟩
 have f1 := hb1.frozen 5
 have HB1 := hid hb1
 have HTY := hid hty
 have HST := hid hst
 have HF := hid hf
 have HTX := hid htx
 clear hb1 hty hst hf htx
 go_wp2
 go_end0
 exact CloPost.of HTY.out HST.out HF.out HTX.out ((HB1.out.set 4 (.slice z0A z0k z0c)).set 5 (.slice z1A z1k z1c)) (((Fr.refl _ _).wr _ _).wr _ _) hbt d1 d4
set_option maxHeartbeats 4000000 in
theorem clo_part_0 (L : Nat) (hg : Reads 160 .int (L - 1)) : CloR 244 .int L 66 0 := by
 refine ⟨enters_of Tryz.func244 (by kernel_rfl) rfl, ?_⟩
 intro w br bv bt str r cs h hlen hv ht hsz d1 d2 d3 d4
 have hbt := ht.lt
 have cv := hv.cell 0
 simp only [gq] at cv
 have hsz' : 0 + 1 ≤ cs.size := by rw [show Shape.sz .int = 1 from rfl] at hsz; exact hsz
 have HR := hid h
 have HV := hid hv
 have HT := hid ht
 have HG := hid hg
 clear h hv ht hg hsz
 go_enter Tryz.func244, Tryz.ntmps244
 go_wp2_with fail
 refine (HG.out _ br str (some r) HR.out (lim hlen)).mono ?_
 rintro e w1 ⟨v, rfl, hty, hst, hf, htx⟩
 have hb1 := HT.out.fr hf d1
 obtain ⟨zn, rfl⟩ := ty_int hty
 rw [val_int]
 obtain ⟨y0, e0⟩ : ∃ y, w1.cell? ⟨bt, 0, none⟩ = some y := ⟨_, (hb1.cell 0).trans (Array.getElem?_eq_getElem (by omega))⟩
 have f0 := hb1.frozen 0
 have HB1 := hid hb1
 have HTY := hid hty
 have HST := hid hst
 have HF := hid hf
 have HTX := hid htx
 clear hb1 hty hst hf htx
 go_wp2
 go_end0
 exact CloPost.of HTY.out HST.out HF.out HTX.out (HB1.out.set 0 (.int .i64 zn)) ((Fr.refl _ _).wr _ _) hbt d1 d4
set_option maxHeartbeats 4000000 in
theorem clo_part_1 (L : Nat) (hg : Reads 236 .rat (L - 1)) : CloR 245 .rat L 66 1 := by
 refine ⟨enters_of Tryz.func245 (by kernel_rfl) rfl, ?_⟩
 intro w br bv bt str r cs h hlen hv ht hsz d1 d2 d3 d4
 have hbt := ht.lt
 have cv := hv.cell 0
 simp only [gq] at cv
 have hsz' : 1 + 3 ≤ cs.size := by rw [show Shape.sz .rat = 3 from rfl] at hsz; exact hsz
 have HR := hid h
 have HV := hid hv
 have HT := hid ht
 have HG := hid hg
 clear h hv ht hg hsz
 go_enter Tryz.func245, Tryz.ntmps245
 go_wp2_with fail
 refine (HG.out _ br str (some r) HR.out (lim hlen)).mono ?_
 rintro e w1 ⟨v, rfl, hty, hst, hf, htx⟩
 have hb1 := HT.out.fr hf d1
 obtain ⟨zb, zA, zk, zc, zD, zl, zd, rfl⟩ := ty_rat hty
 rw [val_rat]
 obtain ⟨y0, e0⟩ : ∃ y, w1.cell? ⟨bt, 1, none⟩ = some y := ⟨_, (hb1.cell 1).trans (Array.getElem?_eq_getElem (by omega))⟩
 have f0 := hb1.frozen 1
 obtain ⟨y1, e1⟩ : ∃ y, w1.cell? ⟨bt, 2, none⟩ = some y := ⟨_, (hb1.cell 2).trans (Array.getElem?_eq_getElem (by omega))⟩
 have f1 := hb1.frozen 2
 obtain ⟨y2, e2⟩ : ∃ y, w1.cell? ⟨bt, 3, none⟩ = some y := ⟨_, (hb1.cell 3).trans (Array.getElem?_eq_getElem (by omega))⟩
 have f2 := hb1.frozen 3
 have HB1 := hid hb1
 have HTY := hid hty
 have HST := hid hst
 have HF := hid hf
 have HTX := hid htx
 clear hb1 hty hst hf htx
 go_wp2
 go_end0
 exact CloPost.of HTY.out HST.out HF.out HTX.out (((HB1.out.set 1 (.bool zb)).set 2 (.slice zA zk zc)).set 3 (.slice zD zl zd)) ((((Fr.refl _ _).wr _ _).wr _ _).wr _ _) hbt d1 d4
set_option maxHeartbeats 4000000 in
theorem clo_part_2 (n : Nat) (L : Nat) (hg : Reads 238 (monoS n) (L - 1)) : CloR 246 (monoS n) L 66 4 := by
 refine ⟨enters_of Tryz.func246 (by kernel_rfl) rfl, ?_⟩
 intro w br bv bt str r cs h hlen hv ht hsz d1 d2 d3 d4
 have hbt := ht.lt
 have cv := hv.cell 0
 simp only [gq] at cv
 have hsz' : 4 + 2 ≤ cs.size := by rw [show Shape.sz (monoS n) = 2 from sz_mono] at hsz; exact hsz
 have HR := hid h
 have HV := hid hv
 have HT := hid ht
 have HG := hid hg
 clear h hv ht hg hsz
 go_enter Tryz.func246, Tryz.ntmps246
 go_wp2_with fail
 refine (HG.out _ br str (some r) HR.out (lim hlen)).mono ?_
 rintro e w1 ⟨v, rfl, hty, hst, hf, htx⟩
 have hb1 := HT.out.fr hf d1
 obtain ⟨z0A, z0k, z0c, z1A, z1k, z1c, rfl⟩ := ty_mono hty
 rw [val_mono]
 obtain ⟨y0, e0⟩ : ∃ y, w1.cell? ⟨bt, 4, none⟩ = some y := ⟨_, (hb1.cell 4).trans (Array.getElem?_eq_getElem (by omega))⟩
 have f0 := hb1.frozen 4
 obtain ⟨y1, e1⟩ : ∃ y, w1.cell? ⟨bt, 5, none⟩ = some y := ⟨_, (hb1.cell 5).trans (Array.getElem?_eq_getElem (by omega))⟩
 have f1 := hb1.frozen 5
 have HB1 := hid hb1
 have HTY := hid hty
 have HST := hid hst
 have HF := hid hf
 have HTX := hid htx
 clear hb1 hty hst hf htx
 go_wp2
 go_end0
 exact CloPost.of HTY.out HST.out HF.out HTX.out ((HB1.out.set 4 (.slice z0A z0k z0c)).set 5 (.slice z1A z1k z1c)) (((Fr.refl _ _).wr _ _).wr _ _) hbt d1 d4
set_option maxHeartbeats 4000000 in
theorem clo_target_0 (L : Nat) (hg : Reads 160 .int (L - 1)) : CloR 239 .int L 71 0 := by
 refine ⟨enters_of Tryz.func239 (by kernel_rfl) rfl, ?_⟩
 intro w br bv bt str r cs h hlen hv ht hsz d1 d2 d3 d4
 have hbt := ht.lt
 have cv := hv.cell 0
 simp only [gq] at cv
 have hsz' : 0 + 1 ≤ cs.size := by rw [show Shape.sz .int = 1 from rfl] at hsz; exact hsz
 have HR := hid h
 have HV := hid hv
 have HT := hid ht
 have HG := hid hg
 clear h hv ht hg hsz
 go_enter Tryz.func239, Tryz.ntmps239
 go_wp2_with fail
 refine (HG.out _ br str (some r) HR.out (lim hlen)).mono ?_
 rintro e w1 ⟨v, rfl, hty, hst, hf, htx⟩
 have hb1 := HT.out.fr hf d1
 obtain ⟨zn, rfl⟩ := ty_int hty
 rw [val_int]
 obtain ⟨y0, e0⟩ : ∃ y, w1.cell? ⟨bt, 0, none⟩ = some y := ⟨_, (hb1.cell 0).trans (Array.getElem?_eq_getElem (by omega))⟩
 have f0 := hb1.frozen 0
 have HB1 := hid hb1
 have HTY := hid hty
 have HST := hid hst
 have HF := hid hf
 have HTX := hid htx
 clear hb1 hty hst hf htx
 go_wp2
 go_end0
 exact CloPost.of HTY.out HST.out HF.out HTX.out (HB1.out.set 0 (.int .i64 zn)) ((Fr.refl _ _).wr _ _) hbt d1 d4
set_option maxHeartbeats 4000000 in
theorem clo_target_1 (n : Nat) (L : Nat) (hg : Reads 242 (useS n) (L - 1)) : CloR 240 (.list (useS n)) L 71 1 := by
 refine ⟨enters_of Tryz.func240 (by kernel_rfl) rfl, ?_⟩
 intro w br bv bt str r cs h hlen hv ht hsz d1 d2 d3 d4
 have hbt := ht.lt
 have cv := hv.cell 0
 simp only [gq] at cv
 have hsz' : 1 + 1 ≤ cs.size := by rw [show Shape.sz (.list (useS n)) = 1 from rfl] at hsz; exact hsz
 have HR := hid h
 have HV := hid hv
 have HT := hid ht
 have HG := hid hg
 clear h hv ht hg hsz
 go_enter Tryz.func240, Tryz.ntmps240
 go_wp2_with fail
 refine (el_use n (L - 1) _ _ _ _ br str (some r) HR.out (lim hlen) (ElR.meth (enters_of Tryz.func242 (by kernel_rfl) rfl) HG.out br str _)).mono ?_
 rintro e w1 ⟨v, rfl, hty, hst, hf, htx⟩
 have hb1 := HT.out.fr hf d1
 obtain ⟨zA, zk, zc, rfl⟩ := ty_list hty
 rw [val_list]
 obtain ⟨y0, e0⟩ : ∃ y, w1.cell? ⟨bt, 1, none⟩ = some y := ⟨_, (hb1.cell 1).trans (Array.getElem?_eq_getElem (by omega))⟩
 have f0 := hb1.frozen 1
 have HB1 := hid hb1
 have HTY := hid hty
 have HST := hid hst
 have HF := hid hf
 have HTX := hid htx
 clear hb1 hty hst hf htx
 go_wp2
 go_end0
 exact CloPost.of HTY.out HST.out HF.out HTX.out (HB1.out.set 1 (.slice zA zk zc)) ((Fr.refl _ _).wr _ _) hbt d1 d4
set_option maxHeartbeats 4000000 in
theorem clo_target_2 (n : Nat) (L : Nat) (hg : Reads 165 (termS n) (L - 1)) : CloR 243 (.list (termS n)) L 71 2 := by
 refine ⟨enters_of Tryz.func243 (by kernel_rfl) rfl, ?_⟩
 intro w br bv bt str r cs h hlen hv ht hsz d1 d2 d3 d4
 have hbt := ht.lt
 have cv := hv.cell 0
 simp only [gq] at cv
 have hsz' : 2 + 1 ≤ cs.size := by rw [show Shape.sz (.list (termS n)) = 1 from rfl] at hsz; exact hsz
 have HR := hid h
 have HV := hid hv
 have HT := hid ht
 have HG := hid hg
 clear h hv ht hg hsz
 go_enter Tryz.func243, Tryz.ntmps243
 go_wp2_with fail
 refine (el_term n (L - 1) _ _ _ _ br str (some r) HR.out (lim hlen) (ElR.meth (enters_of Tryz.func165 (by kernel_rfl) rfl) HG.out br str _)).mono ?_
 rintro e w1 ⟨v, rfl, hty, hst, hf, htx⟩
 have hb1 := HT.out.fr hf d1
 obtain ⟨zA, zk, zc, rfl⟩ := ty_list hty
 rw [val_list]
 obtain ⟨y0, e0⟩ : ∃ y, w1.cell? ⟨bt, 2, none⟩ = some y := ⟨_, (hb1.cell 2).trans (Array.getElem?_eq_getElem (by omega))⟩
 have f0 := hb1.frozen 2
 have HB1 := hid hb1
 have HTY := hid hty
 have HST := hid hst
 have HF := hid hf
 have HTX := hid htx
 clear hb1 hty hst hf htx
 go_wp2
 go_end0
 exact CloPost.of HTY.out HST.out HF.out HTX.out (HB1.out.set 2 (.slice zA zk zc)) ((Fr.refl _ _).wr _ _) hbt d1 d4
set_option maxHeartbeats 4000000 in
theorem clo_axiom_0 (L : Nat) (hg : Reads 160 .int (L - 1)) : CloR 306 .int L 134 0 := by
 refine ⟨enters_of Tryz.func306 (by kernel_rfl) rfl, ?_⟩
 intro w br bv bt str r cs h hlen hv ht hsz d1 d2 d3 d4
 have hbt := ht.lt
 have cv := hv.cell 0
 simp only [gq] at cv
 have hsz' : 0 + 1 ≤ cs.size := by rw [show Shape.sz .int = 1 from rfl] at hsz; exact hsz
 have HR := hid h
 have HV := hid hv
 have HT := hid ht
 have HG := hid hg
 clear h hv ht hg hsz
 go_enter Tryz.func306, Tryz.ntmps306
 go_wp2_with fail
 refine (HG.out _ br str (some r) HR.out (lim hlen)).mono ?_
 rintro e w1 ⟨v, rfl, hty, hst, hf, htx⟩
 have hb1 := HT.out.fr hf d1
 obtain ⟨zn, rfl⟩ := ty_int hty
 rw [val_int]
 obtain ⟨y0, e0⟩ : ∃ y, w1.cell? ⟨bt, 0, none⟩ = some y := ⟨_, (hb1.cell 0).trans (Array.getElem?_eq_getElem (by omega))⟩
 have f0 := hb1.frozen 0
 have HB1 := hid hb1
 have HTY := hid hty
 have HST := hid hst
 have HF := hid hf
 have HTX := hid htx
 clear hb1 hty hst hf htx
 go_wp2
 go_end0
 exact CloPost.of HTY.out HST.out HF.out HTX.out (HB1.out.set 0 (.int .i64 zn)) ((Fr.refl _ _).wr _ _) hbt d1 d4
end Go.Proofs.YtpbdkkoanedimaaGreatDoor
