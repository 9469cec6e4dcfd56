/-
 The reader: fields (printed by gen_codec.py).
-/
import Derived.Test.YtpbdkkoanedimaaGreatDoorHCRa
import Derived.Test.YtpbdkkoanedimaaGreatDoorHCE1
import Derived.Test.YtpbdkkoanedimaaGreatDoorHCE4
import Derived.Test.YtpbdkkoanedimaaGreatDoorHCE5
namespace Go.Proofs.YtpbdkkoanedimaaGreatDoor
open Go.Lib (hid)
open Go.RowKit AC
set_option linter.unusedVariables false
set_option linter.unusedSimpArgs false
set_option maxHeartbeats 4000000 in
theorem clo_axiom_1 (L : Nat) (hg : Reads 150 linS (L - 1)) : CloR 307 linS L 134 1 := by
 refine ⟨enters_of Tryz.func307 (by kernel_rfl) rfl, ?_⟩
 intro w br bv bt str r cs h hlen hv ht hsz d1 d2 d3 d4
 have hbt := ht.lt
 have cv := hv.cell 0
 simp only [gq] at cv
 have hsz' : 1 + 2 ≤ cs.size := by rw [show Shape.sz linS = 2 from sz_lin] at hsz; exact hsz
 have HR := hid h
 have HV := hid hv
 have HT := hid ht
 have HG := hid hg
 clear h hv ht hg hsz
 go_enter Tryz.func307, Tryz.ntmps307
 go_wp2_with fail
 refine (HG.out _ br str (some r) HR.out (lim hlen)).mono ?_
 rintro e w1 ⟨v, rfl, hty, hst, hf, htx⟩
 have hb1 := HT.out.fr hf d1
 obtain ⟨z0n, z1A, z1k, z1c, rfl⟩ := ty_lin hty
 rw [val_lin]
 obtain ⟨y0, e0⟩ : ∃ y, w1.cell? ⟨bt, 1, none⟩ = some y := ⟨_, (hb1.cell 1).trans (Array.getElem?_eq_getElem (by omega))⟩
 have f0 := hb1.frozen 1
 obtain ⟨y1, e1⟩ : ∃ y, w1.cell? ⟨bt, 2, none⟩ = some y := ⟨_, (hb1.cell 2).trans (Array.getElem?_eq_getElem (by omega))⟩
 have f1 := hb1.frozen 2
 have HB1 := hid hb1
 have HTY := hid hty
 have HST := hid hst
 have HF := hid hf
 have HTX := hid htx
 clear hb1 hty hst hf htx
 go_wp2
 go_end0
 exact CloPost.of HTY.out HST.out HF.out HTX.out ((HB1.out.set 1 (.int .i64 z0n)).set 2 (.slice z1A z1k z1c)) (((Fr.refl _ _).wr _ _).wr _ _) hbt d1 d4
set_option maxHeartbeats 4000000 in
theorem clo_axiom_2 (L : Nat) (hg : Reads 150 linS (L - 1)) : CloR 308 linS L 134 3 := by
 refine ⟨enters_of Tryz.func308 (by kernel_rfl) rfl, ?_⟩
 intro w br bv bt str r cs h hlen hv ht hsz d1 d2 d3 d4
 have hbt := ht.lt
 have cv := hv.cell 0
 simp only [gq] at cv
 have hsz' : 3 + 2 ≤ cs.size := by rw [show Shape.sz linS = 2 from sz_lin] at hsz; exact hsz
 have HR := hid h
 have HV := hid hv
 have HT := hid ht
 have HG := hid hg
 clear h hv ht hg hsz
 go_enter Tryz.func308, Tryz.ntmps308
 go_wp2_with fail
 refine (HG.out _ br str (some r) HR.out (lim hlen)).mono ?_
 rintro e w1 ⟨v, rfl, hty, hst, hf, htx⟩
 have hb1 := HT.out.fr hf d1
 obtain ⟨z0n, z1A, z1k, z1c, rfl⟩ := ty_lin hty
 rw [val_lin]
 obtain ⟨y0, e0⟩ : ∃ y, w1.cell? ⟨bt, 3, none⟩ = some y := ⟨_, (hb1.cell 3).trans (Array.getElem?_eq_getElem (by omega))⟩
 have f0 := hb1.frozen 3
 obtain ⟨y1, e1⟩ : ∃ y, w1.cell? ⟨bt, 4, none⟩ = some y := ⟨_, (hb1.cell 4).trans (Array.getElem?_eq_getElem (by omega))⟩
 have f1 := hb1.frozen 4
 have HB1 := hid hb1
 have HTY := hid hty
 have HST := hid hst
 have HF := hid hf
 have HTX := hid htx
 clear hb1 hty hst hf htx
 go_wp2
 go_end0
 exact CloPost.of HTY.out HST.out HF.out HTX.out ((HB1.out.set 3 (.int .i64 z0n)).set 4 (.slice z1A z1k z1c)) (((Fr.refl _ _).wr _ _).wr _ _) hbt d1 d4
set_option maxHeartbeats 4000000 in
theorem clo_axiom_3 (L : Nat) (hg : Reads 160 .int (L - 1)) : CloR 309 .int L 134 5 := by
 refine ⟨enters_of Tryz.func309 (by kernel_rfl) rfl, ?_⟩
 intro w br bv bt str r cs h hlen hv ht hsz d1 d2 d3 d4
 have hbt := ht.lt
 have cv := hv.cell 0
 simp only [gq] at cv
 have hsz' : 5 + 1 ≤ cs.size := by rw [show Shape.sz .int = 1 from rfl] at hsz; exact hsz
 have HR := hid h
 have HV := hid hv
 have HT := hid ht
 have HG := hid hg
 clear h hv ht hg hsz
 go_enter Tryz.func309, Tryz.ntmps309
 go_wp2_with fail
 refine (HG.out _ br str (some r) HR.out (lim hlen)).mono ?_
 rintro e w1 ⟨v, rfl, hty, hst, hf, htx⟩
 have hb1 := HT.out.fr hf d1
 obtain ⟨zn, rfl⟩ := ty_int hty
 rw [val_int]
 obtain ⟨y0, e0⟩ : ∃ y, w1.cell? ⟨bt, 5, none⟩ = some y := ⟨_, (hb1.cell 5).trans (Array.getElem?_eq_getElem (by omega))⟩
 have f0 := hb1.frozen 5
 have HB1 := hid hb1
 have HTY := hid hty
 have HST := hid hst
 have HF := hid hf
 have HTX := hid htx
 clear hb1 hty hst hf htx
 go_wp2
 go_end0
 exact CloPost.of HTY.out HST.out HF.out HTX.out (HB1.out.set 5 (.int .i64 zn)) ((Fr.refl _ _).wr _ _) hbt d1 d4
set_option maxHeartbeats 4000000 in
theorem clo_axiomUse_0 (L : Nat) (hg : Reads 249 axS (L - 1)) : CloR 248 axS L 136 0 := by
 refine ⟨enters_of Tryz.func248 (by kernel_rfl) rfl, ?_⟩
 intro w br bv bt str r cs h hlen hv ht hsz d1 d2 d3 d4
 have hbt := ht.lt
 have cv := hv.cell 0
 simp only [gq] at cv
 have hsz' : 0 + 6 ≤ cs.size := by rw [show Shape.sz axS = 6 from sz_axiom] at hsz; exact hsz
 have HR := hid h
 have HV := hid hv
 have HT := hid ht
 have HG := hid hg
 clear h hv ht hg hsz
 go_enter Tryz.func248, Tryz.ntmps248
 go_wp2_with fail
 refine (HG.out _ br str (some r) HR.out (lim hlen)).mono ?_
 rintro e w1 ⟨v, rfl, hty, hst, hf, htx⟩
 have hb1 := HT.out.fr hf d1
 obtain ⟨z0n, z1_0n, z1_1A, z1_1k, z1_1c, z2_0n, z2_1A, z2_1k, z2_1c, z3n, rfl⟩ := ty_axiom hty
 rw [val_axiom]
 obtain ⟨y0, e0⟩ : ∃ y, w1.cell? ⟨bt, 0, none⟩ = some y := ⟨_, (hb1.cell 0).trans (Array.getElem?_eq_getElem (by omega))⟩
 have f0 := hb1.frozen 0
 obtain ⟨y1, e1⟩ : ∃ y, w1.cell? ⟨bt, 1, none⟩ = some y := ⟨_, (hb1.cell 1).trans (Array.getElem?_eq_getElem (by omega))⟩
 have f1 := hb1.frozen 1
 obtain ⟨y2, e2⟩ : ∃ y, w1.cell? ⟨bt, 2, none⟩ = some y := ⟨_, (hb1.cell 2).trans (Array.getElem?_eq_getElem (by omega))⟩
 have f2 := hb1.frozen 2
 obtain ⟨y3, e3⟩ : ∃ y, w1.cell? ⟨bt, 3, none⟩ = some y := ⟨_, (hb1.cell 3).trans (Array.getElem?_eq_getElem (by omega))⟩
 have f3 := hb1.frozen 3
 obtain ⟨y4, e4⟩ : ∃ y, w1.cell? ⟨bt, 4, none⟩ = some y := ⟨_, (hb1.cell 4).trans (Array.getElem?_eq_getElem (by omega))⟩
 have f4 := hb1.frozen 4
 obtain ⟨y5, e5⟩ : ∃ y, w1.cell? ⟨bt, 5, none⟩ = some y := ⟨_, (hb1.cell 5).trans (Array.getElem?_eq_getElem (by omega))⟩
 have f5 := hb1.frozen 5
 have HB1 := hid hb1
 have HTY := hid hty
 have HST := hid hst
 have HF := hid hf
 have HTX := hid htx
 clear hb1 hty hst hf htx
 go_wp2
 go_end0
 exact CloPost.of HTY.out HST.out HF.out HTX.out ((((((HB1.out.set 0 (.int .i64 z0n)).set 1 (.int .i64 z1_0n)).set 2 (.slice z1_1A z1_1k z1_1c)).set 3 (.int .i64 z2_0n)).set 4 (.slice z2_1A z2_1k z2_1c)).set 5 (.int .i64 z3n)) (((((((Fr.refl _ _).wr _ _).wr _ _).wr _ _).wr _ _).wr _ _).wr _ _) hbt d1 d4
set_option maxHeartbeats 4000000 in
theorem clo_axiomUse_1 (L : Nat) (hg : Reads 236 .rat (L - 1)) : CloR 250 .rat L 136 6 := by
 refine ⟨enters_of Tryz.func250 (by kernel_rfl) rfl, ?_⟩
 intro w br bv bt str r cs h hlen hv ht hsz d1 d2 d3 d4
 have hbt := ht.lt
 have cv := hv.cell 0
 simp only [gq] at cv
 have hsz' : 6 + 3 ≤ cs.size := by rw [show Shape.sz .rat = 3 from rfl] at hsz; exact hsz
 have HR := hid h
 have HV := hid hv
 have HT := hid ht
 have HG := hid hg
 clear h hv ht hg hsz
 go_enter Tryz.func250, Tryz.ntmps250
 go_wp2_with fail
 refine (HG.out _ br str (some r) HR.out (lim hlen)).mono ?_
 rintro e w1 ⟨v, rfl, hty, hst, hf, htx⟩
 have hb1 := HT.out.fr hf d1
 obtain ⟨zb, zA, zk, zc, zD, zl, zd, rfl⟩ := ty_rat hty
 rw [val_rat]
 obtain ⟨y0, e0⟩ : ∃ y, w1.cell? ⟨bt, 6, none⟩ = some y := ⟨_, (hb1.cell 6).trans (Array.getElem?_eq_getElem (by omega))⟩
 have f0 := hb1.frozen 6
 obtain ⟨y1, e1⟩ : ∃ y, w1.cell? ⟨bt, 7, none⟩ = some y := ⟨_, (hb1.cell 7).trans (Array.getElem?_eq_getElem (by omega))⟩
 have f1 := hb1.frozen 7
 obtain ⟨y2, e2⟩ : ∃ y, w1.cell? ⟨bt, 8, none⟩ = some y := ⟨_, (hb1.cell 8).trans (Array.getElem?_eq_getElem (by omega))⟩
 have f2 := hb1.frozen 8
 have HB1 := hid hb1
 have HTY := hid hty
 have HST := hid hst
 have HF := hid hf
 have HTX := hid htx
 clear hb1 hty hst hf htx
 go_wp2
 go_end0
 exact CloPost.of HTY.out HST.out HF.out HTX.out (((HB1.out.set 6 (.bool zb)).set 7 (.slice zA zk zc)).set 8 (.slice zD zl zd)) ((((Fr.refl _ _).wr _ _).wr _ _).wr _ _) hbt d1 d4
set_option maxHeartbeats 4000000 in
theorem clo_axiomUse_2 (n : Nat) (L : Nat) (hg : Reads 238 (monoS n) (L - 1)) : CloR 251 (monoS n) L 136 9 := by
 refine ⟨enters_of Tryz.func251 (by kernel_rfl) rfl, ?_⟩
 intro w br bv bt str r cs h hlen hv ht hsz d1 d2 d3 d4
 have hbt := ht.lt
 have cv := hv.cell 0
 simp only [gq] at cv
 have hsz' : 9 + 2 ≤ cs.size := by rw [show Shape.sz (monoS n) = 2 from sz_mono] at hsz; exact hsz
 have HR := hid h
 have HV := hid hv
 have HT := hid ht
 have HG := hid hg
 clear h hv ht hg hsz
 go_enter Tryz.func251, Tryz.ntmps251
 go_wp2_with fail
 refine (HG.out _ br str (some r) HR.out (lim hlen)).mono ?_
 rintro e w1 ⟨v, rfl, hty, hst, hf, htx⟩
 have hb1 := HT.out.fr hf d1
 obtain ⟨z0A, z0k, z0c, z1A, z1k, z1c, rfl⟩ := ty_mono hty
 rw [val_mono]
 obtain ⟨y0, e0⟩ : ∃ y, w1.cell? ⟨bt, 9, none⟩ = some y := ⟨_, (hb1.cell 9).trans (Array.getElem?_eq_getElem (by omega))⟩
 have f0 := hb1.frozen 9
 obtain ⟨y1, e1⟩ : ∃ y, w1.cell? ⟨bt, 10, none⟩ = some y := ⟨_, (hb1.cell 10).trans (Array.getElem?_eq_getElem (by omega))⟩
 have f1 := hb1.frozen 10
 have HB1 := hid hb1
 have HTY := hid hty
 have HST := hid hst
 have HF := hid hf
 have HTX := hid htx
 clear hb1 hty hst hf htx
 go_wp2
 go_end0
 exact CloPost.of HTY.out HST.out HF.out HTX.out ((HB1.out.set 9 (.slice z0A z0k z0c)).set 10 (.slice z1A z1k z1c)) (((Fr.refl _ _).wr _ _).wr _ _) hbt d1 d4
set_option maxHeartbeats 4000000 in
theorem clo_axiomUse_3 (L : Nat) (hg : Reads 176 (.list .rat) (L - 1)) : CloR 252 (.list .rat) L 136 11 := by
 refine ⟨enters_of Tryz.func252 (by kernel_rfl) rfl, ?_⟩
 intro w br bv bt str r cs h hlen hv ht hsz d1 d2 d3 d4
 have hbt := ht.lt
 have cv := hv.cell 0
 simp only [gq] at cv
 have hsz' : 11 + 1 ≤ cs.size := by rw [show Shape.sz (.list .rat) = 1 from rfl] at hsz; exact hsz
 have HR := hid h
 have HV := hid hv
 have HT := hid ht
 have HG := hid hg
 clear h hv ht hg hsz
 go_enter Tryz.func252, Tryz.ntmps252
 go_wp2_with fail
 refine (HG.out _ br str (some r) HR.out (lim hlen)).mono ?_
 rintro e w1 ⟨v, rfl, hty, hst, hf, htx⟩
 have hb1 := HT.out.fr hf d1
 obtain ⟨zA, zk, zc, rfl⟩ := ty_list hty
 rw [val_list]
 obtain ⟨y0, e0⟩ : ∃ y, w1.cell? ⟨bt, 11, none⟩ = some y := ⟨_, (hb1.cell 11).trans (Array.getElem?_eq_getElem (by omega))⟩
 have f0 := hb1.frozen 11
 have HB1 := hid hb1
 have HTY := hid hty
 have HST := hid hst
 have HF := hid hf
 have HTX := hid htx
 clear hb1 hty hst hf htx
 go_wp2
 go_end0
 exact CloPost.of HTY.out HST.out HF.out HTX.out (HB1.out.set 11 (.slice zA zk zc)) ((Fr.refl _ _).wr _ _) hbt d1 d4
set_option maxHeartbeats 4000000 in
theorem clo_axiomUse_4 (L : Nat) (hg : Reads 176 (.list .rat) (L - 1)) : CloR 253 (.list .rat) L 136 12 := by
 refine ⟨enters_of Tryz.func253 (by kernel_rfl) rfl, ?_⟩
 intro w br bv bt str r cs h hlen hv ht hsz d1 d2 d3 d4
 have hbt := ht.lt
 have cv := hv.cell 0
 simp only [gq] at cv
 have hsz' : 12 + 1 ≤ cs.size := by rw [show Shape.sz (.list .rat) = 1 from rfl] at hsz; exact hsz
 have HR := hid h
 have HV := hid hv
 have HT := hid ht
 have HG := hid hg
 clear h hv ht hg hsz
 go_enter Tryz.func253, Tryz.ntmps253
 go_wp2_with fail
 refine (HG.out _ br str (some r) HR.out (lim hlen)).mono ?_
 rintro e w1 ⟨v, rfl, hty, hst, hf, htx⟩
 have hb1 := HT.out.fr hf d1
 obtain ⟨zA, zk, zc, rfl⟩ := ty_list hty
 rw [val_list]
 obtain ⟨y0, e0⟩ : ∃ y, w1.cell? ⟨bt, 12, none⟩ = some y := ⟨_, (hb1.cell 12).trans (Array.getElem?_eq_getElem (by omega))⟩
 have f0 := hb1.frozen 12
 have HB1 := hid hb1
 have HTY := hid hty
 have HST := hid hst
 have HF := hid hf
 have HTX := hid htx
 clear hb1 hty hst hf htx
 go_wp2
 go_end0
 exact CloPost.of HTY.out HST.out HF.out HTX.out (HB1.out.set 12 (.slice zA zk zc)) ((Fr.refl _ _).wr _ _) hbt d1 d4
set_option maxHeartbeats 4000000 in
theorem clo_node_0 (L : Nat) (hg : Reads 160 .int (L - 1)) : CloR 159 .int L 55 0 := by
 refine ⟨enters_of Tryz.func159 (by kernel_rfl) rfl, ?_⟩
 intro w br bv bt str r cs h hlen hv ht hsz d1 d2 d3 d4
 have hbt := ht.lt
 have cv := hv.cell 0
 simp only [gq] at cv
 have hsz' : 0 + 1 ≤ cs.size := by rw [show Shape.sz .int = 1 from rfl] at hsz; exact hsz
 have HR := hid h
 have HV := hid hv
 have HT := hid ht
 have HG := hid hg
 clear h hv ht hg hsz
 go_enter Tryz.func159, Tryz.ntmps159
 go_wp2_with fail
 refine (HG.out _ br str (some r) HR.out (lim hlen)).mono ?_
 rintro e w1 ⟨v, rfl, hty, hst, hf, htx⟩
 have hb1 := HT.out.fr hf d1
 obtain ⟨zn, rfl⟩ := ty_int hty
 rw [val_int]
 obtain ⟨y0, e0⟩ : ∃ y, w1.cell? ⟨bt, 0, none⟩ = some y := ⟨_, (hb1.cell 0).trans (Array.getElem?_eq_getElem (by omega))⟩
 have f0 := hb1.frozen 0
 have HB1 := hid hb1
 have HTY := hid hty
 have HST := hid hst
 have HF := hid hf
 have HTX := hid htx
 clear hb1 hty hst hf htx
 go_wp2
 go_end0
 exact CloPost.of HTY.out HST.out HF.out HTX.out (HB1.out.set 0 (.int .i64 zn)) ((Fr.refl _ _).wr _ _) hbt d1 d4
set_option maxHeartbeats 4000000 in
theorem clo_node_1 (L : Nat) (hg : Reads 160 .int (L - 1)) : CloR 161 .int L 55 1 := by
 refine ⟨enters_of Tryz.func161 (by kernel_rfl) rfl, ?_⟩
 intro w br bv bt str r cs h hlen hv ht hsz d1 d2 d3 d4
 have hbt := ht.lt
 have cv := hv.cell 0
 simp only [gq] at cv
 have hsz' : 1 + 1 ≤ cs.size := by rw [show Shape.sz .int = 1 from rfl] at hsz; exact hsz
 have HR := hid h
 have HV := hid hv
 have HT := hid ht
 have HG := hid hg
 clear h hv ht hg hsz
 go_enter Tryz.func161, Tryz.ntmps161
 go_wp2_with fail
 refine (HG.out _ br str (some r) HR.out (lim hlen)).mono ?_
 rintro e w1 ⟨v, rfl, hty, hst, hf, htx⟩
 have hb1 := HT.out.fr hf d1
 obtain ⟨zn, rfl⟩ := ty_int hty
 rw [val_int]
 obtain ⟨y0, e0⟩ : ∃ y, w1.cell? ⟨bt, 1, none⟩ = some y := ⟨_, (hb1.cell 1).trans (Array.getElem?_eq_getElem (by omega))⟩
 have f0 := hb1.frozen 1
 have HB1 := hid hb1
 have HTY := hid hty
 have HST := hid hst
 have HF := hid hf
 have HTX := hid htx
 clear hb1 hty hst hf htx
 go_wp2
 go_end0
 exact CloPost.of HTY.out HST.out HF.out HTX.out (HB1.out.set 1 (.int .i64 zn)) ((Fr.refl _ _).wr _ _) hbt d1 d4
set_option maxHeartbeats 4000000 in
theorem clo_node_2 (L : Nat) (hg : Reads 68 .bool (L - 1)) : CloR 162 .bool L 55 2 := by
 refine ⟨enters_of Tryz.func162 (by kernel_rfl) rfl, ?_⟩
 intro w br bv bt str r cs h hlen hv ht hsz d1 d2 d3 d4
 have hbt := ht.lt
 have cv := hv.cell 0
 simp only [gq] at cv
 have hsz' : 2 + 1 ≤ cs.size := by rw [show Shape.sz .bool = 1 from rfl] at hsz; exact hsz
 have HR := hid h
 have HV := hid hv
 have HT := hid ht
 have HG := hid hg
 clear h hv ht hg hsz
 go_enter Tryz.func162, Tryz.ntmps162
 go_wp2_with fail
 refine (HG.out _ br str (some r) HR.out (lim hlen)).mono ?_
 rintro e w1 ⟨v, rfl, hty, hst, hf, htx⟩
 have hb1 := HT.out.fr hf d1
 obtain ⟨zb, rfl⟩ := ty_bool hty
 rw [val_bool]
 obtain ⟨y0, e0⟩ : ∃ y, w1.cell? ⟨bt, 2, none⟩ = some y := ⟨_, (hb1.cell 2).trans (Array.getElem?_eq_getElem (by omega))⟩
 have f0 := hb1.frozen 2
 have HB1 := hid hb1
 have HTY := hid hty
 have HST := hid hst
 have HF := hid hf
 have HTX := hid htx
 clear hb1 hty hst hf htx
 go_wp2
 go_end0
 exact CloPost.of HTY.out HST.out HF.out HTX.out (HB1.out.set 2 (.bool zb)) ((Fr.refl _ _).wr _ _) hbt d1 d4
set_option maxHeartbeats 4000000 in
theorem clo_node_3 (n : Nat) (L : Nat) (hg : Reads 165 (termS n) (L - 1)) : CloR 163 (.list (termS n)) L 55 3 := by
 refine ⟨enters_of Tryz.func163 (by kernel_rfl) rfl, ?_⟩
 intro w br bv bt str r cs h hlen hv ht hsz d1 d2 d3 d4
 have hbt := ht.lt
 have cv := hv.cell 0
 simp only [gq] at cv
 have hsz' : 3 + 1 ≤ cs.size := by rw [show Shape.sz (.list (termS n)) = 1 from rfl] at hsz; exact hsz
 have HR := hid h
 have HV := hid hv
 have HT := hid ht
 have HG := hid hg
 clear h hv ht hg hsz
 go_enter Tryz.func163, Tryz.ntmps163
 go_wp2_with fail
 refine (el_term n (L - 1) _ _ _ _ br str (some r) HR.out (lim hlen) (ElR.meth (enters_of Tryz.func165 (by kernel_rfl) rfl) HG.out br str _)).mono ?_
 rintro e w1 ⟨v, rfl, hty, hst, hf, htx⟩
 have hb1 := HT.out.fr hf d1
 obtain ⟨zA, zk, zc, rfl⟩ := ty_list hty
 rw [val_list]
 obtain ⟨y0, e0⟩ : ∃ y, w1.cell? ⟨bt, 3, none⟩ = some y := ⟨_, (hb1.cell 3).trans (Array.getElem?_eq_getElem (by omega))⟩
 have f0 := hb1.frozen 3
 have HB1 := hid hb1
 have HTY := hid hty
 have HST := hid hst
 have HF := hid hf
 have HTX := hid htx
 clear hb1 hty hst hf htx
 go_wp2
 go_end0
 exact CloPost.of HTY.out HST.out HF.out HTX.out (HB1.out.set 3 (.slice zA zk zc)) ((Fr.refl _ _).wr _ _) hbt d1 d4
set_option maxHeartbeats 4000000 in
theorem elr_x (n L : Nat) (hg : Reads 181 (axuS n) L) (w : World) (br bv : Nat) (str : ByteArray) (hv : Bk w bv 104 #[.pointer (some ⟨br, 0, none⟩)]) (d : bv ≠ br) : ElR 179 (#[] ++ #[.pointer (some ⟨bv, 0, none⟩)]) (.list (axuS n)) L br str w := by
 refine ⟨enters_of Tryz.func179 (by kernel_rfl) rfl, fun W o hf hr hl => ?_⟩
 have cv := (hv.fr hf d).cell 0
 simp only [gq] at cv
 have HR := hid hr
 have HL := hid hl
 have HG := hid hg
 clear hv hf hr hl hg
 show Calls Tryz.prog 179 #[.pointer (some ⟨bv, 0, none⟩)] W _
 go_enter Tryz.func179, Tryz.ntmps179
 go_wp2_with fail
 refine (el_axiomUse n L _ _ _ _ br str o HR.out HL.out (ElR.meth (enters_of Tryz.func181 (by kernel_rfl) rfl) HG.out br str _)).mono ?_
 rintro e w1 ⟨v, rfl, hp⟩
 have hty := hp.1
 obtain ⟨zA, zk, zc, rfl⟩ := ty_list hty
 rw [val_list]
 have HP := hid hp
 clear hp hty
 go_wp2
 go_ret
 exact ⟨_, rfl, HP.out⟩
set_option maxHeartbeats 4000000 in
theorem clo_node_4 (n : Nat) (L : Nat) (hg : Reads 165 (termS n) (L - 1)) : CloR 166 (.list (termS n)) L 55 4 := by
 refine ⟨enters_of Tryz.func166 (by kernel_rfl) rfl, ?_⟩
 intro w br bv bt str r cs h hlen hv ht hsz d1 d2 d3 d4
 have hbt := ht.lt
 have cv := hv.cell 0
 simp only [gq] at cv
 have hsz' : 4 + 1 ≤ cs.size := by rw [show Shape.sz (.list (termS n)) = 1 from rfl] at hsz; exact hsz
 have HR := hid h
 have HV := hid hv
 have HT := hid ht
 have HG := hid hg
 clear h hv ht hg hsz
 go_enter Tryz.func166, Tryz.ntmps166
 go_wp2_with fail
 refine (el_term n (L - 1) _ _ _ _ br str (some r) HR.out (lim hlen) (ElR.meth (enters_of Tryz.func165 (by kernel_rfl) rfl) HG.out br str _)).mono ?_
 rintro e w1 ⟨v, rfl, hty, hst, hf, htx⟩
 have hb1 := HT.out.fr hf d1
 obtain ⟨zA, zk, zc, rfl⟩ := ty_list hty
 rw [val_list]
 obtain ⟨y0, e0⟩ : ∃ y, w1.cell? ⟨bt, 4, none⟩ = some y := ⟨_, (hb1.cell 4).trans (Array.getElem?_eq_getElem (by omega))⟩
 have f0 := hb1.frozen 4
 have HB1 := hid hb1
 have HTY := hid hty
 have HST := hid hst
 have HF := hid hf
 have HTX := hid htx
 clear hb1 hty hst hf htx
 go_wp2
 go_end0
 exact CloPost.of HTY.out HST.out HF.out HTX.out (HB1.out.set 4 (.slice zA zk zc)) ((Fr.refl _ _).wr _ _) hbt d1 d4
set_option maxHeartbeats 4000000 in
theorem clo_node_5 (n : Nat) (L : Nat) (hg : Reads 169 (targetS n) (L - 1)) : CloR 167 (.list (targetS n)) L 55 5 := by
 refine ⟨enters_of Tryz.func167 (by kernel_rfl) rfl, ?_⟩
 intro w br bv bt str r cs h hlen hv ht hsz d1 d2 d3 d4
 have hbt := ht.lt
 have cv := hv.cell 0
 simp only [gq] at cv
 have hsz' : 5 + 1 ≤ cs.size := by rw [show Shape.sz (.list (targetS n)) = 1 from rfl] at hsz; exact hsz
 have HR := hid h
 have HV := hid hv
 have HT := hid ht
 have HG := hid hg
 clear h hv ht hg hsz
 go_enter Tryz.func167, Tryz.ntmps167
 go_wp2_with fail
 refine (el_target n (L - 1) _ _ _ _ br str (some r) HR.out (lim hlen) (ElR.meth (enters_of Tryz.func169 (by kernel_rfl) rfl) HG.out br str _)).mono ?_
 rintro e w1 ⟨v, rfl, hty, hst, hf, htx⟩
 have hb1 := HT.out.fr hf d1
 obtain ⟨zA, zk, zc, rfl⟩ := ty_list hty
 rw [val_list]
 obtain ⟨y0, e0⟩ : ∃ y, w1.cell? ⟨bt, 5, none⟩ = some y := ⟨_, (hb1.cell 5).trans (Array.getElem?_eq_getElem (by omega))⟩
 have f0 := hb1.frozen 5
 have HB1 := hid hb1
 have HTY := hid hty
 have HST := hid hst
 have HF := hid hf
 have HTX := hid htx
 clear hb1 hty hst hf htx
 go_wp2
 go_end0
 exact CloPost.of HTY.out HST.out HF.out HTX.out (HB1.out.set 5 (.slice zA zk zc)) ((Fr.refl _ _).wr _ _) hbt d1 d4
set_option maxHeartbeats 4000000 in
theorem clo_node_6 (n : Nat) (L : Nat) (hg : Reads 172 (useS n) (L - 1)) : CloR 170 (.list (useS n)) L 55 6 := by
 refine ⟨enters_of Tryz.func170 (by kernel_rfl) rfl, ?_⟩
 intro w br bv bt str r cs h hlen hv ht hsz d1 d2 d3 d4
 have hbt := ht.lt
 have cv := hv.cell 0
 simp only [gq] at cv
 have hsz' : 6 + 1 ≤ cs.size := by rw [show Shape.sz (.list (useS n)) = 1 from rfl] at hsz; exact hsz
 have HR := hid h
 have HV := hid hv
 have HT := hid ht
 have HG := hid hg
 clear h hv ht hg hsz
 go_enter Tryz.func170, Tryz.ntmps170
 go_wp2_with fail
 refine (el_part n (L - 1) _ _ _ _ br str (some r) HR.out (lim hlen) (ElR.meth (enters_of Tryz.func172 (by kernel_rfl) rfl) HG.out br str _)).mono ?_
 rintro e w1 ⟨v, rfl, hty, hst, hf, htx⟩
 have hb1 := HT.out.fr hf d1
 obtain ⟨zA, zk, zc, rfl⟩ := ty_list hty
 rw [val_list]
 obtain ⟨y0, e0⟩ : ∃ y, w1.cell? ⟨bt, 6, none⟩ = some y := ⟨_, (hb1.cell 6).trans (Array.getElem?_eq_getElem (by omega))⟩
 have f0 := hb1.frozen 6
 have HB1 := hid hb1
 have HTY := hid hty
 have HST := hid hst
 have HF := hid hf
 have HTX := hid htx
 clear hb1 hty hst hf htx
 go_wp2
 go_end0
 exact CloPost.of HTY.out HST.out HF.out HTX.out (HB1.out.set 6 (.slice zA zk zc)) ((Fr.refl _ _).wr _ _) hbt d1 d4
set_option maxHeartbeats 4000000 in
theorem clo_node_7 (n : Nat) (L : Nat) (hg : Reads 165 (termS n) (L - 1)) : CloR 173 (.list (termS n)) L 55 7 := by
 refine ⟨enters_of Tryz.func173 (by kernel_rfl) rfl, ?_⟩
 intro w br bv bt str r cs h hlen hv ht hsz d1 d2 d3 d4
 have hbt := ht.lt
 have cv := hv.cell 0
 simp only [gq] at cv
 have hsz' : 7 + 1 ≤ cs.size := by rw [show Shape.sz (.list (termS n)) = 1 from rfl] at hsz; exact hsz
 have HR := hid h
 have HV := hid hv
 have HT := hid ht
 have HG := hid hg
 clear h hv ht hg hsz
 go_enter Tryz.func173, Tryz.ntmps173
 go_wp2_with fail
 refine (el_term n (L - 1) _ _ _ _ br str (some r) HR.out (lim hlen) (ElR.meth (enters_of Tryz.func165 (by kernel_rfl) rfl) HG.out br str _)).mono ?_
 rintro e w1 ⟨v, rfl, hty, hst, hf, htx⟩
 have hb1 := HT.out.fr hf d1
 obtain ⟨zA, zk, zc, rfl⟩ := ty_list hty
 rw [val_list]
 obtain ⟨y0, e0⟩ : ∃ y, w1.cell? ⟨bt, 7, none⟩ = some y := ⟨_, (hb1.cell 7).trans (Array.getElem?_eq_getElem (by omega))⟩
 have f0 := hb1.frozen 7
 have HB1 := hid hb1
 have HTY := hid hty
 have HST := hid hst
 have HF := hid hf
 have HTX := hid htx
 clear hb1 hty hst hf htx
 go_wp2
 go_end0
 exact CloPost.of HTY.out HST.out HF.out HTX.out (HB1.out.set 7 (.slice zA zk zc)) ((Fr.refl _ _).wr _ _) hbt d1 d4
set_option maxHeartbeats 4000000 in
theorem clo_node_8 (L : Nat) (hg : Reads 154 (.list .int) (L - 1)) : CloR 174 (.list .int) L 55 8 := by
 refine ⟨enters_of Tryz.func174 (by kernel_rfl) rfl, ?_⟩
 intro w br bv bt str r cs h hlen hv ht hsz d1 d2 d3 d4
 have hbt := ht.lt
 have cv := hv.cell 0
 simp only [gq] at cv
 have hsz' : 8 + 1 ≤ cs.size := by rw [show Shape.sz (.list .int) = 1 from rfl] at hsz; exact hsz
 have HR := hid h
 have HV := hid hv
 have HT := hid ht
 have HG := hid hg
 clear h hv ht hg hsz
 go_enter Tryz.func174, Tryz.ntmps174
 go_wp2_with fail
 refine (HG.out _ br str (some r) HR.out (lim hlen)).mono ?_
 rintro e w1 ⟨v, rfl, hty, hst, hf, htx⟩
 have hb1 := HT.out.fr hf d1
 obtain ⟨zA, zk, zc, rfl⟩ := ty_list hty
 rw [val_list]
 obtain ⟨y0, e0⟩ : ∃ y, w1.cell? ⟨bt, 8, none⟩ = some y := ⟨_, (hb1.cell 8).trans (Array.getElem?_eq_getElem (by omega))⟩
 have f0 := hb1.frozen 8
 have HB1 := hid hb1
 have HTY := hid hty
 have HST := hid hst
 have HF := hid hf
 have HTX := hid htx
 clear hb1 hty hst hf htx
 go_wp2
 go_end0
 exact CloPost.of HTY.out HST.out HF.out HTX.out (HB1.out.set 8 (.slice zA zk zc)) ((Fr.refl _ _).wr _ _) hbt d1 d4
set_option maxHeartbeats 4000000 in
theorem clo_node_9 (L : Nat) (hg : Reads 176 (.list .rat) (L - 1)) : CloR 175 (.list .rat) L 55 9 := by
 refine ⟨enters_of Tryz.func175 (by kernel_rfl) rfl, ?_⟩
 intro w br bv bt str r cs h hlen hv ht hsz d1 d2 d3 d4
 have hbt := ht.lt
 have cv := hv.cell 0
 simp only [gq] at cv
 have hsz' : 9 + 1 ≤ cs.size := by rw [show Shape.sz (.list .rat) = 1 from rfl] at hsz; exact hsz
 have HR := hid h
 have HV := hid hv
 have HT := hid ht
 have HG := hid hg
 clear h hv ht hg hsz
 go_enter Tryz.func175, Tryz.ntmps175
 go_wp2_with fail
 refine (HG.out _ br str (some r) HR.out (lim hlen)).mono ?_
 rintro e w1 ⟨v, rfl, hty, hst, hf, htx⟩
 have hb1 := HT.out.fr hf d1
 obtain ⟨zA, zk, zc, rfl⟩ := ty_list hty
 rw [val_list]
 obtain ⟨y0, e0⟩ : ∃ y, w1.cell? ⟨bt, 9, none⟩ = some y := ⟨_, (hb1.cell 9).trans (Array.getElem?_eq_getElem (by omega))⟩
 have f0 := hb1.frozen 9
 have HB1 := hid hb1
 have HTY := hid hty
 have HST := hid hst
 have HF := hid hf
 have HTX := hid htx
 clear hb1 hty hst hf htx
 go_wp2
 go_end0
 exact CloPost.of HTY.out HST.out HF.out HTX.out (HB1.out.set 9 (.slice zA zk zc)) ((Fr.refl _ _).wr _ _) hbt d1 d4
set_option maxHeartbeats 4000000 in
theorem clo_node_10 (n : Nat) (L : Nat) (hg : Reads 181 (axuS n) (L - 1)) : CloR 177 (.list (.list (axuS n))) L 55 10 := by
 refine ⟨enters_of Tryz.func177 (by kernel_rfl) rfl, ?_⟩
 intro w br bv bt str r cs h hlen hv ht hsz d1 d2 d3 d4
 have hbt := ht.lt
 have cv := hv.cell 0
 simp only [gq] at cv
 have hsz' : 10 + 1 ≤ cs.size := by rw [show Shape.sz (.list (.list (axuS n))) = 1 from rfl] at hsz; exact hsz
 have HR := hid h
 have HV := hid hv
 have HT := hid ht
 have HG := hid hg
 clear h hv ht hg hsz
 go_enter Tryz.func177, Tryz.ntmps177
 go_wp2_with fail
 refine (el_l_axiomUse n (L - 1) _ _ _ _ br str (some r) HR.out (lim hlen) (elr_x n (L - 1) HG.out w br bv str HV.out d2)).mono ?_
 rintro e w1 ⟨v, rfl, hty, hst, hf, htx⟩
 have hb1 := HT.out.fr hf d1
 obtain ⟨zA, zk, zc, rfl⟩ := ty_list hty
 rw [val_list]
 obtain ⟨y0, e0⟩ : ∃ y, w1.cell? ⟨bt, 10, none⟩ = some y := ⟨_, (hb1.cell 10).trans (Array.getElem?_eq_getElem (by omega))⟩
 have f0 := hb1.frozen 10
 have HB1 := hid hb1
 have HTY := hid hty
 have HST := hid hst
 have HF := hid hf
 have HTX := hid htx
 clear hb1 hty hst hf htx
 go_wp2
 go_end0
 exact CloPost.of HTY.out HST.out HF.out HTX.out (HB1.out.set 10 (.slice zA zk zc)) ((Fr.refl _ _).wr _ _) hbt d1 d4
set_option maxHeartbeats 4000000 in
theorem clo_claim_0 (L : Nat) (hg : Reads 160 .int (L - 1)) : CloR 182 .int L 99 0 := by
 refine ⟨enters_of Tryz.func182 (by kernel_rfl) rfl, ?_⟩
 intro w br bv bt str r cs h hlen hv ht hsz d1 d2 d3 d4
 have hbt := ht.lt
 have cv := hv.cell 0
 simp only [gq] at cv
 have hsz' : 0 + 1 ≤ cs.size := by rw [show Shape.sz .int = 1 from rfl] at hsz; exact hsz
 have HR := hid h
 have HV := hid hv
 have HT := hid ht
 have HG := hid hg
 clear h hv ht hg hsz
 go_enter Tryz.func182, Tryz.ntmps182
 go_wp2_with fail
 refine (HG.out _ br str (some r) HR.out (lim hlen)).mono ?_
 rintro e w1 ⟨v, rfl, hty, hst, hf, htx⟩
 have hb1 := HT.out.fr hf d1
 obtain ⟨zn, rfl⟩ := ty_int hty
 rw [val_int]
 obtain ⟨y0, e0⟩ : ∃ y, w1.cell? ⟨bt, 0, none⟩ = some y := ⟨_, (hb1.cell 0).trans (Array.getElem?_eq_getElem (by omega))⟩
 have f0 := hb1.frozen 0
 have HB1 := hid hb1
 have HTY := hid hty
 have HST := hid hst
 have HF := hid hf
 have HTX := hid htx
 clear hb1 hty hst hf htx
 go_wp2
 go_end0
 exact CloPost.of HTY.out HST.out HF.out HTX.out (HB1.out.set 0 (.int .i64 zn)) ((Fr.refl _ _).wr _ _) hbt d1 d4
set_option maxHeartbeats 4000000 in
theorem clo_claim_1 (L : Nat) (hg : Reads 160 .int (L - 1)) : CloR 183 .int L 99 1 := by
 refine ⟨enters_of Tryz.func183 (by kernel_rfl) rfl, ?_⟩
 intro w br bv bt str r cs h hlen hv ht hsz d1 d2 d3 d4
 have hbt := ht.lt
 have cv := hv.cell 0
 simp only [gq] at cv
 have hsz' : 1 + 1 ≤ cs.size := by rw [show Shape.sz .int = 1 from rfl] at hsz; exact hsz
 have HR := hid h
 have HV := hid hv
 have HT := hid ht
 have HG := hid hg
 clear h hv ht hg hsz
 go_enter Tryz.func183, Tryz.ntmps183
 go_wp2_with fail
 refine (HG.out _ br str (some r) HR.out (lim hlen)).mono ?_
 rintro e w1 ⟨v, rfl, hty, hst, hf, htx⟩
 have hb1 := HT.out.fr hf d1
 obtain ⟨zn, rfl⟩ := ty_int hty
 rw [val_int]
 obtain ⟨y0, e0⟩ : ∃ y, w1.cell? ⟨bt, 1, none⟩ = some y := ⟨_, (hb1.cell 1).trans (Array.getElem?_eq_getElem (by omega))⟩
 have f0 := hb1.frozen 1
 have HB1 := hid hb1
 have HTY := hid hty
 have HST := hid hst
 have HF := hid hf
 have HTX := hid htx
 clear hb1 hty hst hf htx
 go_wp2
 go_end0
 exact CloPost.of HTY.out HST.out HF.out HTX.out (HB1.out.set 1 (.int .i64 zn)) ((Fr.refl _ _).wr _ _) hbt d1 d4
set_option maxHeartbeats 4000000 in
theorem clo_cert_0 (L : Nat) (hg : Reads 68 .bool (L - 1)) : CloR 67 .bool L 33 0 := by
 refine ⟨enters_of Tryz.func67 (by kernel_rfl) rfl, ?_⟩
 intro w br bv bt str r cs h hlen hv ht hsz d1 d2 d3 d4
 have hbt := ht.lt
 have cv := hv.cell 0
 simp only [gq] at cv
 have hsz' : 0 + 1 ≤ cs.size := by rw [show Shape.sz .bool = 1 from rfl] at hsz; exact hsz
 have HR := hid h
 have HV := hid hv
 have HT := hid ht
 have HG := hid hg
 clear h hv ht hg hsz
 go_enter Tryz.func67, Tryz.ntmps67
 go_wp2_with fail
 refine (HG.out _ br str (some r) HR.out (lim hlen)).mono ?_
 rintro e w1 ⟨v, rfl, hty, hst, hf, htx⟩
 have hb1 := HT.out.fr hf d1
 obtain ⟨zb, rfl⟩ := ty_bool hty
 rw [val_bool]
 obtain ⟨y0, e0⟩ : ∃ y, w1.cell? ⟨bt, 0, none⟩ = some y := ⟨_, (hb1.cell 0).trans (Array.getElem?_eq_getElem (by omega))⟩
 have f0 := hb1.frozen 0
 have HB1 := hid hb1
 have HTY := hid hty
 have HST := hid hst
 have HF := hid hf
 have HTX := hid htx
 clear hb1 hty hst hf htx
 go_wp2
 go_end0
 exact CloPost.of HTY.out HST.out HF.out HTX.out (HB1.out.set 0 (.bool zb)) ((Fr.refl _ _).wr _ _) hbt d1 d4
set_option maxHeartbeats 4000000 in
theorem clo_cert_1 (L : Nat) (hg : Reads 70 metricS (L - 1)) : CloR 69 metricS L 33 1 := by
 refine ⟨enters_of Tryz.func69 (by kernel_rfl) rfl, ?_⟩
 intro w br bv bt str r cs h hlen hv ht hsz d1 d2 d3 d4
 have hbt := ht.lt
 have cv := hv.cell 0
 simp only [gq] at cv
 have hsz' : 1 + 2 ≤ cs.size := by rw [show Shape.sz metricS = 2 from sz_metric] at hsz; exact hsz
 have HR := hid h
 have HV := hid hv
 have HT := hid ht
 have HG := hid hg
 clear h hv ht hg hsz
 go_enter Tryz.func69, Tryz.ntmps69
 go_wp2_with fail
 refine (HG.out _ br str (some r) HR.out (lim hlen)).mono ?_
 rintro e w1 ⟨v, rfl, hty, hst, hf, htx⟩
 have hb1 := HT.out.fr hf d1
 obtain ⟨z0A, z0k, z0c, z1A, z1k, z1c, rfl⟩ := ty_metric hty
 rw [val_metric]
 obtain ⟨y0, e0⟩ : ∃ y, w1.cell? ⟨bt, 1, none⟩ = some y := ⟨_, (hb1.cell 1).trans (Array.getElem?_eq_getElem (by omega))⟩
 have f0 := hb1.frozen 1
 obtain ⟨y1, e1⟩ : ∃ y, w1.cell? ⟨bt, 2, none⟩ = some y := ⟨_, (hb1.cell 2).trans (Array.getElem?_eq_getElem (by omega))⟩
 have f1 := hb1.frozen 2
 have HB1 := hid hb1
 have HTY := hid hty
 have HST := hid hst
 have HF := hid hf
 have HTX := hid htx
 clear hb1 hty hst hf htx
 go_wp2
 go_end0
 exact CloPost.of HTY.out HST.out HF.out HTX.out ((HB1.out.set 1 (.slice z0A z0k z0c)).set 2 (.slice z1A z1k z1c)) (((Fr.refl _ _).wr _ _).wr _ _) hbt d1 d4
set_option maxHeartbeats 4000000 in
theorem clo_cert_2 (L : Nat) (hg : Reads 73 relationS (L - 1)) : CloR 71 (.list relationS) L 33 3 := by
 refine ⟨enters_of Tryz.func71 (by kernel_rfl) rfl, ?_⟩
 intro w br bv bt str r cs h hlen hv ht hsz d1 d2 d3 d4
 have hbt := ht.lt
 have cv := hv.cell 0
 simp only [gq] at cv
 have hsz' : 3 + 1 ≤ cs.size := by rw [show Shape.sz (.list relationS) = 1 from rfl] at hsz; exact hsz
 have HR := hid h
 have HV := hid hv
 have HT := hid ht
 have HG := hid hg
 clear h hv ht hg hsz
 go_enter Tryz.func71, Tryz.ntmps71
 go_wp2_with fail
 refine (el_relation (L - 1) _ _ _ _ br str (some r) HR.out (lim hlen) (ElR.meth (enters_of Tryz.func73 (by kernel_rfl) rfl) HG.out br str _)).mono ?_
 rintro e w1 ⟨v, rfl, hty, hst, hf, htx⟩
 have hb1 := HT.out.fr hf d1
 obtain ⟨zA, zk, zc, rfl⟩ := ty_list hty
 rw [val_list]
 obtain ⟨y0, e0⟩ : ∃ y, w1.cell? ⟨bt, 3, none⟩ = some y := ⟨_, (hb1.cell 3).trans (Array.getElem?_eq_getElem (by omega))⟩
 have f0 := hb1.frozen 3
 have HB1 := hid hb1
 have HTY := hid hty
 have HST := hid hst
 have HF := hid hf
 have HTX := hid htx
 clear hb1 hty hst hf htx
 go_wp2
 go_end0
 exact CloPost.of HTY.out HST.out HF.out HTX.out (HB1.out.set 3 (.slice zA zk zc)) ((Fr.refl _ _).wr _ _) hbt d1 d4
set_option maxHeartbeats 4000000 in
theorem clo_cert_3 (n : Nat) (L : Nat) (hg : Reads 75 (flowS n) (L - 1)) : CloR 74 (flowS n) L 33 4 := by
 refine ⟨enters_of Tryz.func74 (by kernel_rfl) rfl, ?_⟩
 intro w br bv bt str r cs h hlen hv ht hsz d1 d2 d3 d4
 have hbt := ht.lt
 have cv := hv.cell 0
 simp only [gq] at cv
 have hsz' : 4 + 3 ≤ cs.size := by rw [show Shape.sz (flowS n) = 3 from sz_flow] at hsz; exact hsz
 have HR := hid h
 have HV := hid hv
 have HT := hid ht
 have HG := hid hg
 clear h hv ht hg hsz
 go_enter Tryz.func74, Tryz.ntmps74
 go_wp2_with fail
 refine (HG.out _ br str (some r) HR.out (lim hlen)).mono ?_
 rintro e w1 ⟨v, rfl, hty, hst, hf, htx⟩
 have hb1 := HT.out.fr hf d1
 obtain ⟨z0A, z0k, z0c, z1A, z1k, z1c, z2A, z2k, z2c, rfl⟩ := ty_flow hty
 rw [val_flow]
 obtain ⟨y0, e0⟩ : ∃ y, w1.cell? ⟨bt, 4, none⟩ = some y := ⟨_, (hb1.cell 4).trans (Array.getElem?_eq_getElem (by omega))⟩
 have f0 := hb1.frozen 4
 obtain ⟨y1, e1⟩ : ∃ y, w1.cell? ⟨bt, 5, none⟩ = some y := ⟨_, (hb1.cell 5).trans (Array.getElem?_eq_getElem (by omega))⟩
 have f1 := hb1.frozen 5
 obtain ⟨y2, e2⟩ : ∃ y, w1.cell? ⟨bt, 6, none⟩ = some y := ⟨_, (hb1.cell 6).trans (Array.getElem?_eq_getElem (by omega))⟩
 have f2 := hb1.frozen 6
 have HB1 := hid hb1
 have HTY := hid hty
 have HST := hid hst
 have HF := hid hf
 have HTX := hid htx
 clear hb1 hty hst hf htx
 go_wp2
 go_end0
 exact CloPost.of HTY.out HST.out HF.out HTX.out (((HB1.out.set 4 (.slice z0A z0k z0c)).set 5 (.slice z1A z1k z1c)).set 6 (.slice z2A z2k z2c)) ((((Fr.refl _ _).wr _ _).wr _ _).wr _ _) hbt d1 d4
set_option maxHeartbeats 4000000 in
theorem clo_cert_4 (n : Nat) (L : Nat) (hg : Reads 78 (nodeS n) (L - 1)) : CloR 76 (.list (nodeS n)) L 33 7 := by
 refine ⟨enters_of Tryz.func76 (by kernel_rfl) rfl, ?_⟩
 intro w br bv bt str r cs h hlen hv ht hsz d1 d2 d3 d4
 have hbt := ht.lt
 have cv := hv.cell 0
 simp only [gq] at cv
 have hsz' : 7 + 1 ≤ cs.size := by rw [show Shape.sz (.list (nodeS n)) = 1 from rfl] at hsz; exact hsz
 have HR := hid h
 have HV := hid hv
 have HT := hid ht
 have HG := hid hg
 clear h hv ht hg hsz
 go_enter Tryz.func76, Tryz.ntmps76
 go_wp2_with fail
 refine (el_node n (L - 1) _ _ _ _ br str (some r) HR.out (lim hlen) (ElR.meth (enters_of Tryz.func78 (by kernel_rfl) rfl) HG.out br str _)).mono ?_
 rintro e w1 ⟨v, rfl, hty, hst, hf, htx⟩
 have hb1 := HT.out.fr hf d1
 obtain ⟨zA, zk, zc, rfl⟩ := ty_list hty
 rw [val_list]
 obtain ⟨y0, e0⟩ : ∃ y, w1.cell? ⟨bt, 7, none⟩ = some y := ⟨_, (hb1.cell 7).trans (Array.getElem?_eq_getElem (by omega))⟩
 have f0 := hb1.frozen 7
 have HB1 := hid hb1
 have HTY := hid hty
 have HST := hid hst
 have HF := hid hf
 have HTX := hid htx
 clear hb1 hty hst hf htx
 go_wp2
 go_end0
 exact CloPost.of HTY.out HST.out HF.out HTX.out (HB1.out.set 7 (.slice zA zk zc)) ((Fr.refl _ _).wr _ _) hbt d1 d4
set_option maxHeartbeats 4000000 in
theorem clo_cert_5 (L : Nat) (hg : Reads 81 claimS (L - 1)) : CloR 79 (.list claimS) L 33 8 := by
 refine ⟨enters_of Tryz.func79 (by kernel_rfl) rfl, ?_⟩
 intro w br bv bt str r cs h hlen hv ht hsz d1 d2 d3 d4
 have hbt := ht.lt
 have cv := hv.cell 0
 simp only [gq] at cv
 have hsz' : 8 + 1 ≤ cs.size := by rw [show Shape.sz (.list claimS) = 1 from rfl] at hsz; exact hsz
 have HR := hid h
 have HV := hid hv
 have HT := hid ht
 have HG := hid hg
 clear h hv ht hg hsz
 go_enter Tryz.func79, Tryz.ntmps79
 go_wp2_with fail
 refine (el_claim (L - 1) _ _ _ _ br str (some r) HR.out (lim hlen) (ElR.meth (enters_of Tryz.func81 (by kernel_rfl) rfl) HG.out br str _)).mono ?_
 rintro e w1 ⟨v, rfl, hty, hst, hf, htx⟩
 have hb1 := HT.out.fr hf d1
 obtain ⟨zA, zk, zc, rfl⟩ := ty_list hty
 rw [val_list]
 obtain ⟨y0, e0⟩ : ∃ y, w1.cell? ⟨bt, 8, none⟩ = some y := ⟨_, (hb1.cell 8).trans (Array.getElem?_eq_getElem (by omega))⟩
 have f0 := hb1.frozen 8
 have HB1 := hid hb1
 have HTY := hid hty
 have HST := hid hst
 have HF := hid hf
 have HTX := hid htx
 clear hb1 hty hst hf htx
 go_wp2
 go_end0
 exact CloPost.of HTY.out HST.out HF.out HTX.out (HB1.out.set 8 (.slice zA zk zc)) ((Fr.refl _ _).wr _ _) hbt d1 d4
set_option maxHeartbeats 4000000 in
theorem reads_integers (L : Nat) (hg : Reads 160 .int L) : Reads 154 (.list .int) L := by
 intro w br str o hr hl
 have HR := hid hr
 have HL := hid hl
 have HG := hid hg
 clear hr hl hg
 go_enter Tryz.func154, Tryz.ntmps154
 go_wp2_with fail
 refine (el_int L _ _ _ _ br str o HR.out HL.out (ElR.meth (enters_of Tryz.func160 (by kernel_rfl) rfl) HG.out br str _)).mono ?_
 rintro e w1 ⟨v, rfl, hp⟩
 have hty := hp.1
 obtain ⟨zA, zk, zc, rfl⟩ := ty_list hty
 rw [val_list]
 have HP := hid hp
 clear hp hty
 go_wp2
 go_ret
 exact ⟨_, rfl, HP.out⟩
set_option maxHeartbeats 4000000 in
theorem reads_longs (L : Nat) (hg : Reads 226 .int L) : Reads 145 (.list .int) L := by
 intro w br str o hr hl
 have HR := hid hr
 have HL := hid hl
 have HG := hid hg
 clear hr hl hg
 go_enter Tryz.func145, Tryz.ntmps145
 go_wp2_with fail
 refine (el_int64 L _ _ _ _ br str o HR.out HL.out (ElR.meth (enters_of Tryz.func226 (by kernel_rfl) rfl) HG.out br str _)).mono ?_
 rintro e w1 ⟨v, rfl, hp⟩
 have hty := hp.1
 obtain ⟨zA, zk, zc, rfl⟩ := ty_list hty
 rw [val_list]
 have HP := hid hp
 clear hp hty
 go_wp2
 go_ret
 exact ⟨_, rfl, HP.out⟩
set_option maxHeartbeats 4000000 in
theorem reads_rats (L : Nat) (hg : Reads 236 .rat L) : Reads 176 (.list .rat) L := by
 intro w br str o hr hl
 have HR := hid hr
 have HL := hid hl
 have HG := hid hg
 clear hr hl hg
 go_enter Tryz.func176, Tryz.ntmps176
 go_wp2_with fail
 refine (el_rat L _ _ _ _ br str o HR.out HL.out (ElR.meth (enters_of Tryz.func236 (by kernel_rfl) rfl) HG.out br str _)).mono ?_
 rintro e w1 ⟨v, rfl, hp⟩
 have hty := hp.1
 obtain ⟨zA, zk, zc, rfl⟩ := ty_list hty
 rw [val_list]
 have HP := hid hp
 clear hp hty
 go_wp2
 go_ret
 exact ⟨_, rfl, HP.out⟩
end Go.Proofs.YtpbdkkoanedimaaGreatDoor
