/-
 The reader: lists (printed by gen_codec.py).
-/
import Derived.Test.YtpbdkkoanedimaaGreatDoorHCRa
namespace Go.Proofs.YtpbdkkoanedimaaGreatDoor
open Go.Lib (hid)
open Go.RowKit AC
set_option linter.unusedVariables false
set_option linter.unusedSimpArgs false
theorem info_el_atom : (Tryz.prog.info? 132).map (fun i => (i.size, i.bytes, i.zero.map fun z => z.cells.size)) = some (3, 40, some 3) := by kernel_rfl
set_option maxHeartbeats 2000000 in
set_option maxRecDepth 100000 in
theorem el_atom (L : Nat) (g : FuncId) (fi ca : Array Value) (w : World) (br : Nat) (str : ByteArray) (o : Option (List UInt8)) (h : Rst w br str o) (hL : ∀ r, o = some r → r.length ≤ L) (hel : ElR g (fi ++ ca) atomS L br str w) :
 Calls Tryz.prog 301 #[.pointer (some ⟨br, 0, none⟩), .func (.func g) fi ca] w (RPost (.list atomS) br str o w) := by
 obtain ⟨he, hel⟩ := hel
 unfold Enters at he
 have hlt := h.lt
 have hsz : Shape.sz atomS = 3 := sz_atom
 have HR := hid h
 have HL := hid hL
 have HE := hid hel
 clear h hL hel
 go_enter Tryz.func301, Tryz.ntmps301
 go_wp2_with fail
 refine (rsign_any _ br str o 40 40 rfl HR.out).mono ?_
 rintro e w1 ⟨rfl, hr1, hf1⟩
 have I0 := EInv.start (s := atomS) (e := 132) HR.out hr1 hf1
 have HI0 := hid I0
 clear I0 hr1 hf1
 go_wp2
 go_loopw [5] (fun lv wr => ∃ (n' : Nat) (o' : Option (List UInt8)), Hid (EInv atomS 132 br str o w lv n' o' wr)) (fun lv _ => 262146 - lenOf lv)
 case atStart => exact ⟨0, _, HI0⟩
 case round =>
  obtain ⟨n', o', hI⟩ := hrel
  clear HI0
  obtain ⟨A, c, rfl, hnc, hcm⟩ := hI.out.form
  have hsm := hI.out.small
  have c2 := hI.out.rst.cell
  unfold maxLen at hcm
  cases o' with
  | none =>
   go_wp2_with fail
   refine (rsign_any _ br str none 41 41 rfl hI.out.rst).mono ?_
   rintro e w2 ⟨rfl, hr2, hf2⟩
   go_wp2
   go_ret
   exact EInv.last hlt hI.out (.inl rfl) hr2 hf2
  | some r0 =>
   cases ha : isAt 41 (some r0) with
   | true =>
    have HA := hid ha
    clear ha
    go_wp2_with fail
    refine (rat_any _ br str (some r0) 41 41 rfl hI.out.rst).mono ?_
    rintro e w2 ⟨rfl, q, rfl⟩
    rw [HA.out]
    go_wp2_with fail
    refine (rsign_any _ br str (some r0) 41 41 rfl (hI.out.rst.drewN q)).mono ?_
    rintro e w2 ⟨rfl, hr2, hf2⟩
    go_wp2
    go_ret
    exact EInv.last hlt hI.out ((EInv.at hI.out).1 HA.out) hr2 (((Fr.refl _ _).drewN q).trans hf2)
   | false =>
    have HA := hid ha
    clear ha
    have hnat := (EInv.at hI.out).2 HA.out r0 rfl
    have HN := hid hnat
    clear hnat
    by_cases hn : n' = 0
    ·subst hn
     go_wp2_with fail
     refine (rat_any _ br str (some r0) 41 41 rfl hI.out.rst).mono ?_
     rintro e w2 ⟨rfl, q, rfl⟩
     rw [HA.out]
     go_wp2_with fail
     refine (HE.out _ (some r0) ((hI.out.fr).drewN q) (hI.out.rst.drewN q) (fun r hr => hI.out.limit HL.out hr)).mono ?_
     rintro e w3 ⟨v, rfl, hty, hst, hf, htx⟩
     obtain ⟨xs, hown⟩ := hI.out.own hlt (((Fr.refl _ _).drewN q).trans hf)
     have hw3 : w.heap.size ≤ w3.heap.size := (hI.out.fr.trans (((Fr.refl _ _).drewN q).trans hf)).size
     obtain ⟨z0_0n, z0_1A, z0_1k, z0_1c, z1n, rfl⟩ := ty_atom hty
     rw [val_atom]
     have HTY := hid hty
     have HST := hid hst
     have HFF := hid hf
     have HTX := hid htx
     clear hty hst hf htx
     rw [hsz] at hown
     go_wp2_with (at_builtin; refine wpList_pushS w3 rfl _ _ 62 132 rfl Tryz.underlying62 3 40 info_el_atom (by decide) (by decide) w.heap.size _ 0 xs [.int .i64 z0_0n, .slice z0_1A z0_1k z0_1c, .int .i64 z1n] (by rfl) hown (by rfl) rfl HTY.out.one (by omega) hw3 ?_)
     intro g' cap w4 hown' hg hgb hglt
     rw [← hsz] at hown hown'
     have HI2 := hid (EInv.next one_atom hlt hI.out HN.out ((Fr.refl _ _).drewN q) rfl HTY.out HST.out HFF.out HTX.out hown hown' hg hgb hglt)
     have a0 := HI2.out.small
     clear hown' hg hgb hglt hown
     go_wp2
     go_roundw
     case rel => exact ⟨_, _, HI2⟩
     case measure => simp [lenOf]
    ·have hkp : decide (0 < n') = true := by simp; omega
     have hn0 : 0 < n' := by omega
     go_wp2_with fail
     refine (rat_any _ br str (some r0) 41 41 rfl hI.out.rst).mono ?_
     rintro e w2 ⟨rfl, q, rfl⟩
     rw [HA.out]
     go_wp2_with fail
     refine (rsign_any _ br str (some r0) 32 32 rfl (hI.out.rst.drewN q)).mono ?_
     rintro e w2 ⟨rfl, hr2, hf2⟩
     have HR2 := hid hr2
     have HF2 := hid (((Fr.refl _ _).drewN q).trans hf2)
     clear hr2 hf2
     go_wp2_with fail
     refine (HE.out _ (want 32 (some r0)) ((hI.out.fr).trans HF2.out) HR2.out (fun r hr => hI.out.limit HL.out (by rw [if_neg hn]; exact hr))).mono ?_
     rintro e w3 ⟨v, rfl, hty, hst, hf, htx⟩
     obtain ⟨xs, hown⟩ := hI.out.own hlt (HF2.out.trans hf)
     have hw3 : w.heap.size ≤ w3.heap.size := (hI.out.fr.trans (HF2.out.trans hf)).size
     obtain ⟨z0_0n, z0_1A, z0_1k, z0_1c, z1n, rfl⟩ := ty_atom hty
     rw [val_atom]
     have HTY := hid hty
     have HST := hid hst
     have HFF := hid hf
     have HTX := hid htx
     clear hty hst hf htx
     rw [hsz] at hown
     go_wp2_with (at_builtin; refine wpList_pushS w3 rfl _ _ 62 132 rfl Tryz.underlying62 3 40 info_el_atom (by decide) (by decide) w.heap.size _ n' xs [.int .i64 z0_0n, .slice z0_1A z0_1k z0_1c, .int .i64 z1n] (by rfl) hown (by rfl) rfl HTY.out.one (by omega) hw3 ?_)
     intro g' cap w4 hown' hg hgb hglt
     rw [← hsz] at hown hown'
     have HI2 := hid (EInv.next one_atom hlt hI.out HN.out HF2.out (if_neg hn) HTY.out HST.out HFF.out HTX.out hown hown' hg hgb hglt)
     have a0 := HI2.out.small
     clear hown' hg hgb hglt hown
     go_wp2
     go_roundw
     case rel => exact ⟨_, _, HI2⟩
     case measure => simp [lenOf]; omega
theorem info_el_term : (Tryz.prog.info? 121).map (fun i => (i.size, i.bytes, i.zero.map fun z => z.cells.size)) = some (5, 104, some 5) := by kernel_rfl
set_option maxHeartbeats 2000000 in
set_option maxRecDepth 100000 in
theorem el_term (n : Nat) (L : Nat) (g : FuncId) (fi ca : Array Value) (w : World) (br : Nat) (str : ByteArray) (o : Option (List UInt8)) (h : Rst w br str o) (hL : ∀ r, o = some r → r.length ≤ L) (hel : ElR g (fi ++ ca) (termS n) L br str w) :
 Calls Tryz.prog 164 #[.pointer (some ⟨br, 0, none⟩), .func (.func g) fi ca] w (RPost (.list (termS n)) br str o w) := by
 obtain ⟨he, hel⟩ := hel
 unfold Enters at he
 have hlt := h.lt
 have hsz : Shape.sz (termS n) = 5 := sz_term
 have HR := hid h
 have HL := hid hL
 have HE := hid hel
 clear h hL hel
 go_enter Tryz.func164, Tryz.ntmps164
 go_wp2_with fail
 refine (rsign_any _ br str o 40 40 rfl HR.out).mono ?_
 rintro e w1 ⟨rfl, hr1, hf1⟩
 have I0 := EInv.start (s := (termS n)) (e := 121) HR.out hr1 hf1
 have HI0 := hid I0
 clear I0 hr1 hf1
 go_wp2
 go_loopw [5] (fun lv wr => ∃ (n' : Nat) (o' : Option (List UInt8)), Hid (EInv (termS n) 121 br str o w lv n' o' wr)) (fun lv _ => 262146 - lenOf lv)
 case atStart => exact ⟨0, _, HI0⟩
 case round =>
  obtain ⟨n', o', hI⟩ := hrel
  clear HI0
  obtain ⟨A, c, rfl, hnc, hcm⟩ := hI.out.form
  have hsm := hI.out.small
  have c2 := hI.out.rst.cell
  unfold maxLen at hcm
  cases o' with
  | none =>
   go_wp2_with fail
   refine (rsign_any _ br str none 41 41 rfl hI.out.rst).mono ?_
   rintro e w2 ⟨rfl, hr2, hf2⟩
   go_wp2
   go_ret
   exact EInv.last hlt hI.out (.inl rfl) hr2 hf2
  | some r0 =>
   cases ha : isAt 41 (some r0) with
   | true =>
    have HA := hid ha
    clear ha
    go_wp2_with fail
    refine (rat_any _ br str (some r0) 41 41 rfl hI.out.rst).mono ?_
    rintro e w2 ⟨rfl, q, rfl⟩
    rw [HA.out]
    go_wp2_with fail
    refine (rsign_any _ br str (some r0) 41 41 rfl (hI.out.rst.drewN q)).mono ?_
    rintro e w2 ⟨rfl, hr2, hf2⟩
    go_wp2
    go_ret
    exact EInv.last hlt hI.out ((EInv.at hI.out).1 HA.out) hr2 (((Fr.refl _ _).drewN q).trans hf2)
   | false =>
    have HA := hid ha
    clear ha
    have hnat := (EInv.at hI.out).2 HA.out r0 rfl
    have HN := hid hnat
    clear hnat
    by_cases hn : n' = 0
    ·subst hn
     go_wp2_with fail
     refine (rat_any _ br str (some r0) 41 41 rfl hI.out.rst).mono ?_
     rintro e w2 ⟨rfl, q, rfl⟩
     rw [HA.out]
     go_wp2_with fail
     refine (HE.out _ (some r0) ((hI.out.fr).drewN q) (hI.out.rst.drewN q) (fun r hr => hI.out.limit HL.out hr)).mono ?_
     rintro e w3 ⟨v, rfl, hty, hst, hf, htx⟩
     obtain ⟨xs, hown⟩ := hI.out.own hlt (((Fr.refl _ _).drewN q).trans hf)
     have hw3 : w.heap.size ≤ w3.heap.size := (hI.out.fr.trans (((Fr.refl _ _).drewN q).trans hf)).size
     obtain ⟨z0b, z0A, z0k, z0c, z0D, z0l, z0d, z1_0A, z1_0k, z1_0c, z1_1A, z1_1k, z1_1c, rfl⟩ := ty_term hty
     rw [val_term]
     have HTY := hid hty
     have HST := hid hst
     have HFF := hid hf
     have HTX := hid htx
     clear hty hst hf htx
     rw [hsz] at hown
     go_wp2_with (at_builtin; refine wpList_pushS w3 rfl _ _ 48 121 rfl Tryz.underlying48 5 104 info_el_term (by decide) (by decide) w.heap.size _ 0 xs [.bool z0b, .slice z0A z0k z0c, .slice z0D z0l z0d, .slice z1_0A z1_0k z1_0c, .slice z1_1A z1_1k z1_1c] (by rfl) hown (by rfl) rfl HTY.out.one (by omega) hw3 ?_)
     intro g' cap w4 hown' hg hgb hglt
     rw [← hsz] at hown hown'
     have HI2 := hid (EInv.next one_term hlt hI.out HN.out ((Fr.refl _ _).drewN q) rfl HTY.out HST.out HFF.out HTX.out hown hown' hg hgb hglt)
     have a0 := HI2.out.small
     clear hown' hg hgb hglt hown
     go_wp2
     go_roundw
     case rel => exact ⟨_, _, HI2⟩
     case measure => simp [lenOf]
    ·have hkp : decide (0 < n') = true := by simp; omega
     have hn0 : 0 < n' := by omega
     go_wp2_with fail
     refine (rat_any _ br str (some r0) 41 41 rfl hI.out.rst).mono ?_
     rintro e w2 ⟨rfl, q, rfl⟩
     rw [HA.out]
     go_wp2_with fail
     refine (rsign_any _ br str (some r0) 32 32 rfl (hI.out.rst.drewN q)).mono ?_
     rintro e w2 ⟨rfl, hr2, hf2⟩
     have HR2 := hid hr2
     have HF2 := hid (((Fr.refl _ _).drewN q).trans hf2)
     clear hr2 hf2
     go_wp2_with fail
     refine (HE.out _ (want 32 (some r0)) ((hI.out.fr).trans HF2.out) HR2.out (fun r hr => hI.out.limit HL.out (by rw [if_neg hn]; exact hr))).mono ?_
     rintro e w3 ⟨v, rfl, hty, hst, hf, htx⟩
     obtain ⟨xs, hown⟩ := hI.out.own hlt (HF2.out.trans hf)
     have hw3 : w.heap.size ≤ w3.heap.size := (hI.out.fr.trans (HF2.out.trans hf)).size
     obtain ⟨z0b, z0A, z0k, z0c, z0D, z0l, z0d, z1_0A, z1_0k, z1_0c, z1_1A, z1_1k, z1_1c, rfl⟩ := ty_term hty
     rw [val_term]
     have HTY := hid hty
     have HST := hid hst
     have HFF := hid hf
     have HTX := hid htx
     clear hty hst hf htx
     rw [hsz] at hown
     go_wp2_with (at_builtin; refine wpList_pushS w3 rfl _ _ 48 121 rfl Tryz.underlying48 5 104 info_el_term (by decide) (by decide) w.heap.size _ n' xs [.bool z0b, .slice z0A z0k z0c, .slice z0D z0l z0d, .slice z1_0A z1_0k z1_0c, .slice z1_1A z1_1k z1_1c] (by rfl) hown (by rfl) rfl HTY.out.one (by omega) hw3 ?_)
     intro g' cap w4 hown' hg hgb hglt
     rw [← hsz] at hown hown'
     have HI2 := hid (EInv.next one_term hlt hI.out HN.out HF2.out (if_neg hn) HTY.out HST.out HFF.out HTX.out hown hown' hg hgb hglt)
     have a0 := HI2.out.small
     clear hown' hg hgb hglt hown
     go_wp2
     go_roundw
     case rel => exact ⟨_, _, HI2⟩
     case measure => simp [lenOf]; omega
theorem info_el_use : (Tryz.prog.info? 73).map (fun i => (i.size, i.bytes, i.zero.map fun z => z.cells.size)) = some (6, 112, some 6) := by kernel_rfl
set_option maxHeartbeats 2000000 in
set_option maxRecDepth 100000 in
theorem el_use (n : Nat) (L : Nat) (g : FuncId) (fi ca : Array Value) (w : World) (br : Nat) (str : ByteArray) (o : Option (List UInt8)) (h : Rst w br str o) (hL : ∀ r, o = some r → r.length ≤ L) (hel : ElR g (fi ++ ca) (useS n) L br str w) :
 Calls Tryz.prog 241 #[.pointer (some ⟨br, 0, none⟩), .func (.func g) fi ca] w (RPost (.list (useS n)) br str o w) := by
 obtain ⟨he, hel⟩ := hel
 unfold Enters at he
 have hlt := h.lt
 have hsz : Shape.sz (useS n) = 6 := sz_use
 have HR := hid h
 have HL := hid hL
 have HE := hid hel
 clear h hL hel
 go_enter Tryz.func241, Tryz.ntmps241
 go_wp2_with fail
 refine (rsign_any _ br str o 40 40 rfl HR.out).mono ?_
 rintro e w1 ⟨rfl, hr1, hf1⟩
 have I0 := EInv.start (s := (useS n)) (e := 73) HR.out hr1 hf1
 have HI0 := hid I0
 clear I0 hr1 hf1
 go_wp2
 go_loopw [5] (fun lv wr => ∃ (n' : Nat) (o' : Option (List UInt8)), Hid (EInv (useS n) 73 br str o w lv n' o' wr)) (fun lv _ => 262146 - lenOf lv)
 case atStart => exact ⟨0, _, HI0⟩
 case round =>
  obtain ⟨n', o', hI⟩ := hrel
  clear HI0
  obtain ⟨A, c, rfl, hnc, hcm⟩ := hI.out.form
  have hsm := hI.out.small
  have c2 := hI.out.rst.cell
  unfold maxLen at hcm
  cases o' with
  | none =>
   go_wp2_with fail
   refine (rsign_any _ br str none 41 41 rfl hI.out.rst).mono ?_
   rintro e w2 ⟨rfl, hr2, hf2⟩
   go_wp2
   go_ret
   exact EInv.last hlt hI.out (.inl rfl) hr2 hf2
  | some r0 =>
   cases ha : isAt 41 (some r0) with
   | true =>
    have HA := hid ha
    clear ha
    go_wp2_with fail
    refine (rat_any _ br str (some r0) 41 41 rfl hI.out.rst).mono ?_
    rintro e w2 ⟨rfl, q, rfl⟩
    rw [HA.out]
    go_wp2_with fail
    refine (rsign_any _ br str (some r0) 41 41 rfl (hI.out.rst.drewN q)).mono ?_
    rintro e w2 ⟨rfl, hr2, hf2⟩
    go_wp2
    go_ret
    exact EInv.last hlt hI.out ((EInv.at hI.out).1 HA.out) hr2 (((Fr.refl _ _).drewN q).trans hf2)
   | false =>
    have HA := hid ha
    clear ha
    have hnat := (EInv.at hI.out).2 HA.out r0 rfl
    have HN := hid hnat
    clear hnat
    by_cases hn : n' = 0
    ·subst hn
     go_wp2_with fail
     refine (rat_any _ br str (some r0) 41 41 rfl hI.out.rst).mono ?_
     rintro e w2 ⟨rfl, q, rfl⟩
     rw [HA.out]
     go_wp2_with fail
     refine (HE.out _ (some r0) ((hI.out.fr).drewN q) (hI.out.rst.drewN q) (fun r hr => hI.out.limit HL.out hr)).mono ?_
     rintro e w3 ⟨v, rfl, hty, hst, hf, htx⟩
     obtain ⟨xs, hown⟩ := hI.out.own hlt (((Fr.refl _ _).drewN q).trans hf)
     have hw3 : w.heap.size ≤ w3.heap.size := (hI.out.fr.trans (((Fr.refl _ _).drewN q).trans hf)).size
     obtain ⟨z0n, z1b, z1A, z1k, z1c, z1D, z1l, z1d, z2_0A, z2_0k, z2_0c, z2_1A, z2_1k, z2_1c, rfl⟩ := ty_use hty
     rw [val_use]
     have HTY := hid hty
     have HST := hid hst
     have HFF := hid hf
     have HTX := hid htx
     clear hty hst hf htx
     rw [hsz] at hown
     go_wp2_with (at_builtin; refine wpList_pushS w3 rfl _ _ 69 73 rfl Tryz.underlying69 6 112 info_el_use (by decide) (by decide) w.heap.size _ 0 xs [.int .i64 z0n, .bool z1b, .slice z1A z1k z1c, .slice z1D z1l z1d, .slice z2_0A z2_0k z2_0c, .slice z2_1A z2_1k z2_1c] (by rfl) hown (by rfl) rfl HTY.out.one (by omega) hw3 ?_)
     intro g' cap w4 hown' hg hgb hglt
     rw [← hsz] at hown hown'
     have HI2 := hid (EInv.next one_use hlt hI.out HN.out ((Fr.refl _ _).drewN q) rfl HTY.out HST.out HFF.out HTX.out hown hown' hg hgb hglt)
     have a0 := HI2.out.small
     clear hown' hg hgb hglt hown
     go_wp2
     go_roundw
     case rel => exact ⟨_, _, HI2⟩
     case measure => simp [lenOf]
    ·have hkp : decide (0 < n') = true := by simp; omega
     have hn0 : 0 < n' := by omega
     go_wp2_with fail
     refine (rat_any _ br str (some r0) 41 41 rfl hI.out.rst).mono ?_
     rintro e w2 ⟨rfl, q, rfl⟩
     rw [HA.out]
     go_wp2_with fail
     refine (rsign_any _ br str (some r0) 32 32 rfl (hI.out.rst.drewN q)).mono ?_
     rintro e w2 ⟨rfl, hr2, hf2⟩
     have HR2 := hid hr2
     have HF2 := hid (((Fr.refl _ _).drewN q).trans hf2)
     clear hr2 hf2
     go_wp2_with fail
     refine (HE.out _ (want 32 (some r0)) ((hI.out.fr).trans HF2.out) HR2.out (fun r hr => hI.out.limit HL.out (by rw [if_neg hn]; exact hr))).mono ?_
     rintro e w3 ⟨v, rfl, hty, hst, hf, htx⟩
     obtain ⟨xs, hown⟩ := hI.out.own hlt (HF2.out.trans hf)
     have hw3 : w.heap.size ≤ w3.heap.size := (hI.out.fr.trans (HF2.out.trans hf)).size
     obtain ⟨z0n, z1b, z1A, z1k, z1c, z1D, z1l, z1d, z2_0A, z2_0k, z2_0c, z2_1A, z2_1k, z2_1c, rfl⟩ := ty_use hty
     rw [val_use]
     have HTY := hid hty
     have HST := hid hst
     have HFF := hid hf
     have HTX := hid htx
     clear hty hst hf htx
     rw [hsz] at hown
     go_wp2_with (at_builtin; refine wpList_pushS w3 rfl _ _ 69 73 rfl Tryz.underlying69 6 112 info_el_use (by decide) (by decide) w.heap.size _ n' xs [.int .i64 z0n, .bool z1b, .slice z1A z1k z1c, .slice z1D z1l z1d, .slice z2_0A z2_0k z2_0c, .slice z2_1A z2_1k z2_1c] (by rfl) hown (by rfl) rfl HTY.out.one (by omega) hw3 ?_)
     intro g' cap w4 hown' hg hgb hglt
     rw [← hsz] at hown hown'
     have HI2 := hid (EInv.next one_use hlt hI.out HN.out HF2.out (if_neg hn) HTY.out HST.out HFF.out HTX.out hown hown' hg hgb hglt)
     have a0 := HI2.out.small
     clear hown' hg hgb hglt hown
     go_wp2
     go_roundw
     case rel => exact ⟨_, _, HI2⟩
     case measure => simp [lenOf]; omega
theorem info_el_part : (Tryz.prog.info? 66).map (fun i => (i.size, i.bytes, i.zero.map fun z => z.cells.size)) = some (6, 112, some 6) := by kernel_rfl
set_option maxHeartbeats 2000000 in
set_option maxRecDepth 100000 in
theorem el_part (n : Nat) (L : Nat) (g : FuncId) (fi ca : Array Value) (w : World) (br : Nat) (str : ByteArray) (o : Option (List UInt8)) (h : Rst w br str o) (hL : ∀ r, o = some r → r.length ≤ L) (hel : ElR g (fi ++ ca) (useS n) L br str w) :
 Calls Tryz.prog 171 #[.pointer (some ⟨br, 0, none⟩), .func (.func g) fi ca] w (RPost (.list (useS n)) br str o w) := by
 obtain ⟨he, hel⟩ := hel
 unfold Enters at he
 have hlt := h.lt
 have hsz : Shape.sz (useS n) = 6 := sz_use
 have HR := hid h
 have HL := hid hL
 have HE := hid hel
 clear h hL hel
 go_enter Tryz.func171, Tryz.ntmps171
 go_wp2_with fail
 refine (rsign_any _ br str o 40 40 rfl HR.out).mono ?_
 rintro e w1 ⟨rfl, hr1, hf1⟩
 have I0 := EInv.start (s := (useS n)) (e := 66) HR.out hr1 hf1
 have HI0 := hid I0
 clear I0 hr1 hf1
 go_wp2
 go_loopw [5] (fun lv wr => ∃ (n' : Nat) (o' : Option (List UInt8)), Hid (EInv (useS n) 66 br str o w lv n' o' wr)) (fun lv _ => 262146 - lenOf lv)
 case atStart => exact ⟨0, _, HI0⟩
 case round =>
  obtain ⟨n', o', hI⟩ := hrel
  clear HI0
  obtain ⟨A, c, rfl, hnc, hcm⟩ := hI.out.form
  have hsm := hI.out.small
  have c2 := hI.out.rst.cell
  unfold maxLen at hcm
  cases o' with
  | none =>
   go_wp2_with fail
   refine (rsign_any _ br str none 41 41 rfl hI.out.rst).mono ?_
   rintro e w2 ⟨rfl, hr2, hf2⟩
   go_wp2
   go_ret
   exact EInv.last hlt hI.out (.inl rfl) hr2 hf2
  | some r0 =>
   cases ha : isAt 41 (some r0) with
   | true =>
    have HA := hid ha
    clear ha
    go_wp2_with fail
    refine (rat_any _ br str (some r0) 41 41 rfl hI.out.rst).mono ?_
    rintro e w2 ⟨rfl, q, rfl⟩
    rw [HA.out]
    go_wp2_with fail
    refine (rsign_any _ br str (some r0) 41 41 rfl (hI.out.rst.drewN q)).mono ?_
    rintro e w2 ⟨rfl, hr2, hf2⟩
    go_wp2
    go_ret
    exact EInv.last hlt hI.out ((EInv.at hI.out).1 HA.out) hr2 (((Fr.refl _ _).drewN q).trans hf2)
   | false =>
    have HA := hid ha
    clear ha
    have hnat := (EInv.at hI.out).2 HA.out r0 rfl
    have HN := hid hnat
    clear hnat
    by_cases hn : n' = 0
    ·subst hn
     go_wp2_with fail
     refine (rat_any _ br str (some r0) 41 41 rfl hI.out.rst).mono ?_
     rintro e w2 ⟨rfl, q, rfl⟩
     rw [HA.out]
     go_wp2_with fail
     refine (HE.out _ (some r0) ((hI.out.fr).drewN q) (hI.out.rst.drewN q) (fun r hr => hI.out.limit HL.out hr)).mono ?_
     rintro e w3 ⟨v, rfl, hty, hst, hf, htx⟩
     obtain ⟨xs, hown⟩ := hI.out.own hlt (((Fr.refl _ _).drewN q).trans hf)
     have hw3 : w.heap.size ≤ w3.heap.size := (hI.out.fr.trans (((Fr.refl _ _).drewN q).trans hf)).size
     obtain ⟨z0n, z1b, z1A, z1k, z1c, z1D, z1l, z1d, z2_0A, z2_0k, z2_0c, z2_1A, z2_1k, z2_1c, rfl⟩ := ty_use hty
     rw [val_use]
     have HTY := hid hty
     have HST := hid hst
     have HFF := hid hf
     have HTX := hid htx
     clear hty hst hf htx
     rw [hsz] at hown
     go_wp2_with (at_builtin; refine wpList_pushS w3 rfl _ _ 50 66 rfl Tryz.underlying50 6 112 info_el_part (by decide) (by decide) w.heap.size _ 0 xs [.int .i64 z0n, .bool z1b, .slice z1A z1k z1c, .slice z1D z1l z1d, .slice z2_0A z2_0k z2_0c, .slice z2_1A z2_1k z2_1c] (by rfl) hown (by rfl) rfl HTY.out.one (by omega) hw3 ?_)
     intro g' cap w4 hown' hg hgb hglt
     rw [← hsz] at hown hown'
     have HI2 := hid (EInv.next one_use hlt hI.out HN.out ((Fr.refl _ _).drewN q) rfl HTY.out HST.out HFF.out HTX.out hown hown' hg hgb hglt)
     have a0 := HI2.out.small
     clear hown' hg hgb hglt hown
     go_wp2
     go_roundw
     case rel => exact ⟨_, _, HI2⟩
     case measure => simp [lenOf]
    ·have hkp : decide (0 < n') = true := by simp; omega
     have hn0 : 0 < n' := by omega
     go_wp2_with fail
     refine (rat_any _ br str (some r0) 41 41 rfl hI.out.rst).mono ?_
     rintro e w2 ⟨rfl, q, rfl⟩
     rw [HA.out]
     go_wp2_with fail
     refine (rsign_any _ br str (some r0) 32 32 rfl (hI.out.rst.drewN q)).mono ?_
     rintro e w2 ⟨rfl, hr2, hf2⟩
     have HR2 := hid hr2
     have HF2 := hid (((Fr.refl _ _).drewN q).trans hf2)
     clear hr2 hf2
     go_wp2_with fail
     refine (HE.out _ (want 32 (some r0)) ((hI.out.fr).trans HF2.out) HR2.out (fun r hr => hI.out.limit HL.out (by rw [if_neg hn]; exact hr))).mono ?_
     rintro e w3 ⟨v, rfl, hty, hst, hf, htx⟩
     obtain ⟨xs, hown⟩ := hI.out.own hlt (HF2.out.trans hf)
     have hw3 : w.heap.size ≤ w3.heap.size := (hI.out.fr.trans (HF2.out.trans hf)).size
     obtain ⟨z0n, z1b, z1A, z1k, z1c, z1D, z1l, z1d, z2_0A, z2_0k, z2_0c, z2_1A, z2_1k, z2_1c, rfl⟩ := ty_use hty
     rw [val_use]
     have HTY := hid hty
     have HST := hid hst
     have HFF := hid hf
     have HTX := hid htx
     clear hty hst hf htx
     rw [hsz] at hown
     go_wp2_with (at_builtin; refine wpList_pushS w3 rfl _ _ 50 66 rfl Tryz.underlying50 6 112 info_el_part (by decide) (by decide) w.heap.size _ n' xs [.int .i64 z0n, .bool z1b, .slice z1A z1k z1c, .slice z1D z1l z1d, .slice z2_0A z2_0k z2_0c, .slice z2_1A z2_1k z2_1c] (by rfl) hown (by rfl) rfl HTY.out.one (by omega) hw3 ?_)
     intro g' cap w4 hown' hg hgb hglt
     rw [← hsz] at hown hown'
     have HI2 := hid (EInv.next one_use hlt hI.out HN.out HF2.out (if_neg hn) HTY.out HST.out HFF.out HTX.out hown hown' hg hgb hglt)
     have a0 := HI2.out.small
     clear hown' hg hgb hglt hown
     go_wp2
     go_roundw
     case rel => exact ⟨_, _, HI2⟩
     case measure => simp [lenOf]; omega
end Go.Proofs.YtpbdkkoanedimaaGreatDoor
