/-
 The reader: lists (printed by gen_codec.py).
-/
import Derived.Test.YtpbdkkoanedimaaGreatDoorHCRa
namespace Go.Proofs.YtpbdkkoanedimaaGreatDoor
open Go.Lib (hid)
open Go.RowKit AC
set_option linter.unusedVariables false
set_option linter.unusedSimpArgs false
theorem info_el_int64 : (Tryz.prog.info? 2).map (fun i => (i.size, i.bytes, i.zero.map fun z => z.cells.size)) = some (1, 8, some 1) := by kernel_rfl
set_option maxHeartbeats 2000000 in
set_option maxRecDepth 100000 in
theorem el_int64 (L : Nat) (g : FuncId) (fi ca : Array Value) (w : World) (br : Nat) (str : ByteArray) (o : Option (List UInt8)) (h : Rst w br str o) (hL : ∀ r, o = some r → r.length ≤ L) (hel : ElR g (fi ++ ca) .int L br str w) :
 Calls Tryz.prog 225 #[.pointer (some ⟨br, 0, none⟩), .func (.func g) fi ca] w (RPost (.list .int) br str o w) := by
 obtain ⟨he, hel⟩ := hel
 unfold Enters at he
 have hlt := h.lt
 have hsz : Shape.sz .int = 1 := rfl
 have HR := hid h
 have HL := hid hL
 have HE := hid hel
 clear h hL hel
 go_enter Tryz.func225, Tryz.ntmps225
 go_wp2_with fail
 refine (rsign_any _ br str o 40 40 rfl HR.out).mono ?_
 rintro e w1 ⟨rfl, hr1, hf1⟩
 have I0 := EInv.start (s := .int) (e := 2) HR.out hr1 hf1
 have HI0 := hid I0
 clear I0 hr1 hf1
 go_wp2
 go_loopw [5] (fun lv wr => ∃ (n' : Nat) (o' : Option (List UInt8)), Hid (EInv .int 2 br str o w lv n' o' wr)) (fun lv _ => 262146 - lenOf lv)
 case atStart => exact ⟨0, _, HI0⟩
 case round =>
  obtain ⟨n', o', hI⟩ := hrel
  clear HI0
  obtain ⟨A, c, rfl, hnc, hcm⟩ := hI.out.form
  have hsm := hI.out.small
  have c2 := hI.out.rst.cell
  unfold maxLen at hcm
  cases o' with
  | none =>
   go_wp2_with fail
   refine (rsign_any _ br str none 41 41 rfl hI.out.rst).mono ?_
   rintro e w2 ⟨rfl, hr2, hf2⟩
   go_wp2
   go_ret
   exact EInv.last hlt hI.out (.inl rfl) hr2 hf2
  | some r0 =>
   cases ha : isAt 41 (some r0) with
   | true =>
    have HA := hid ha
    clear ha
    go_wp2_with fail
    refine (rat_any _ br str (some r0) 41 41 rfl hI.out.rst).mono ?_
    rintro e w2 ⟨rfl, q, rfl⟩
    rw [HA.out]
    go_wp2_with fail
    refine (rsign_any _ br str (some r0) 41 41 rfl (hI.out.rst.drewN q)).mono ?_
    rintro e w2 ⟨rfl, hr2, hf2⟩
    go_wp2
    go_ret
    exact EInv.last hlt hI.out ((EInv.at hI.out).1 HA.out) hr2 (((Fr.refl _ _).drewN q).trans hf2)
   | false =>
    have HA := hid ha
    clear ha
    have hnat := (EInv.at hI.out).2 HA.out r0 rfl
    have HN := hid hnat
    clear hnat
    by_cases hn : n' = 0
    ·subst hn
     go_wp2_with fail
     refine (rat_any _ br str (some r0) 41 41 rfl hI.out.rst).mono ?_
     rintro e w2 ⟨rfl, q, rfl⟩
     rw [HA.out]
     go_wp2_with fail
     refine (HE.out _ (some r0) ((hI.out.fr).drewN q) (hI.out.rst.drewN q) (fun r hr => hI.out.limit HL.out hr)).mono ?_
     rintro e w3 ⟨v, rfl, hty, hst, hf, htx⟩
     obtain ⟨xs, hown⟩ := hI.out.own hlt (((Fr.refl _ _).drewN q).trans hf)
     have hw3 : w.heap.size ≤ w3.heap.size := (hI.out.fr.trans (((Fr.refl _ _).drewN q).trans hf)).size
     obtain ⟨zn, rfl⟩ := ty_int hty
     rw [val_int]
     have HTY := hid hty
     have HST := hid hst
     have HFF := hid hf
     have HTX := hid htx
     clear hty hst hf htx
     rw [hsz] at hown
     go_wp2_with (at_builtin; refine wpList_pushS w3 rfl _ _ 22 2 rfl Tryz.underlying22 1 8 info_el_int64 (by decide) (by decide) w.heap.size _ 0 xs [.int .i64 zn] (by rfl) hown (by rfl) rfl HTY.out.one (by omega) hw3 ?_)
     intro g' cap w4 hown' hg hgb hglt
     rw [← hsz] at hown hown'
     have HI2 := hid (EInv.next rfl hlt hI.out HN.out ((Fr.refl _ _).drewN q) rfl HTY.out HST.out HFF.out HTX.out hown hown' hg hgb hglt)
     have a0 := HI2.out.small
     clear hown' hg hgb hglt hown
     go_wp2
     go_roundw
     case rel => exact ⟨_, _, HI2⟩
     case measure => simp [lenOf]
    ·have hkp : decide (0 < n') = true := by simp; omega
     have hn0 : 0 < n' := by omega
     go_wp2_with fail
     refine (rat_any _ br str (some r0) 41 41 rfl hI.out.rst).mono ?_
     rintro e w2 ⟨rfl, q, rfl⟩
     rw [HA.out]
     go_wp2_with fail
     refine (rsign_any _ br str (some r0) 32 32 rfl (hI.out.rst.drewN q)).mono ?_
     rintro e w2 ⟨rfl, hr2, hf2⟩
     have HR2 := hid hr2
     have HF2 := hid (((Fr.refl _ _).drewN q).trans hf2)
     clear hr2 hf2
     go_wp2_with fail
     refine (HE.out _ (want 32 (some r0)) ((hI.out.fr).trans HF2.out) HR2.out (fun r hr => hI.out.limit HL.out (by rw [if_neg hn]; exact hr))).mono ?_
     rintro e w3 ⟨v, rfl, hty, hst, hf, htx⟩
     obtain ⟨xs, hown⟩ := hI.out.own hlt (HF2.out.trans hf)
     have hw3 : w.heap.size ≤ w3.heap.size := (hI.out.fr.trans (HF2.out.trans hf)).size
     obtain ⟨zn, rfl⟩ := ty_int hty
     rw [val_int]
     have HTY := hid hty
     have HST := hid hst
     have HFF := hid hf
     have HTX := hid htx
     clear hty hst hf htx
     rw [hsz] at hown
     go_wp2_with (at_builtin; refine wpList_pushS w3 rfl _ _ 22 2 rfl Tryz.underlying22 1 8 info_el_int64 (by decide) (by decide) w.heap.size _ n' xs [.int .i64 zn] (by rfl) hown (by rfl) rfl HTY.out.one (by omega) hw3 ?_)
     intro g' cap w4 hown' hg hgb hglt
     rw [← hsz] at hown hown'
     have HI2 := hid (EInv.next rfl hlt hI.out HN.out HF2.out (if_neg hn) HTY.out HST.out HFF.out HTX.out hown hown' hg hgb hglt)
     have a0 := HI2.out.small
     clear hown' hg hgb hglt hown
     go_wp2
     go_roundw
     case rel => exact ⟨_, _, HI2⟩
     case measure => simp [lenOf]; omega
theorem info_el_int : (Tryz.prog.info? 3).map (fun i => (i.size, i.bytes, i.zero.map fun z => z.cells.size)) = some (1, 8, some 1) := by kernel_rfl
set_option maxHeartbeats 2000000 in
set_option maxRecDepth 100000 in
theorem el_int (L : Nat) (g : FuncId) (fi ca : Array Value) (w : World) (br : Nat) (str : ByteArray) (o : Option (List UInt8)) (h : Rst w br str o) (hL : ∀ r, o = some r → r.length ≤ L) (hel : ElR g (fi ++ ca) .int L br str w) :
 Calls Tryz.prog 231 #[.pointer (some ⟨br, 0, none⟩), .func (.func g) fi ca] w (RPost (.list .int) br str o w) := by
 obtain ⟨he, hel⟩ := hel
 unfold Enters at he
 have hlt := h.lt
 have hsz : Shape.sz .int = 1 := rfl
 have HR := hid h
 have HL := hid hL
 have HE := hid hel
 clear h hL hel
 go_enter Tryz.func231, Tryz.ntmps231
 go_wp2_with fail
 refine (rsign_any _ br str o 40 40 rfl HR.out).mono ?_
 rintro e w1 ⟨rfl, hr1, hf1⟩
 have I0 := EInv.start (s := .int) (e := 3) HR.out hr1 hf1
 have HI0 := hid I0
 clear I0 hr1 hf1
 go_wp2
 go_loopw [5] (fun lv wr => ∃ (n' : Nat) (o' : Option (List UInt8)), Hid (EInv .int 3 br str o w lv n' o' wr)) (fun lv _ => 262146 - lenOf lv)
 case atStart => exact ⟨0, _, HI0⟩
 case round =>
  obtain ⟨n', o', hI⟩ := hrel
  clear HI0
  obtain ⟨A, c, rfl, hnc, hcm⟩ := hI.out.form
  have hsm := hI.out.small
  have c2 := hI.out.rst.cell
  unfold maxLen at hcm
  cases o' with
  | none =>
   go_wp2_with fail
   refine (rsign_any _ br str none 41 41 rfl hI.out.rst).mono ?_
   rintro e w2 ⟨rfl, hr2, hf2⟩
   go_wp2
   go_ret
   exact EInv.last hlt hI.out (.inl rfl) hr2 hf2
  | some r0 =>
   cases ha : isAt 41 (some r0) with
   | true =>
    have HA := hid ha
    clear ha
    go_wp2_with fail
    refine (rat_any _ br str (some r0) 41 41 rfl hI.out.rst).mono ?_
    rintro e w2 ⟨rfl, q, rfl⟩
    rw [HA.out]
    go_wp2_with fail
    refine (rsign_any _ br str (some r0) 41 41 rfl (hI.out.rst.drewN q)).mono ?_
    rintro e w2 ⟨rfl, hr2, hf2⟩
    go_wp2
    go_ret
    exact EInv.last hlt hI.out ((EInv.at hI.out).1 HA.out) hr2 (((Fr.refl _ _).drewN q).trans hf2)
   | false =>
    have HA := hid ha
    clear ha
    have hnat := (EInv.at hI.out).2 HA.out r0 rfl
    have HN := hid hnat
    clear hnat
    by_cases hn : n' = 0
    ·subst hn
     go_wp2_with fail
     refine (rat_any _ br str (some r0) 41 41 rfl hI.out.rst).mono ?_
     rintro e w2 ⟨rfl, q, rfl⟩
     rw [HA.out]
     go_wp2_with fail
     refine (HE.out _ (some r0) ((hI.out.fr).drewN q) (hI.out.rst.drewN q) (fun r hr => hI.out.limit HL.out hr)).mono ?_
     rintro e w3 ⟨v, rfl, hty, hst, hf, htx⟩
     obtain ⟨xs, hown⟩ := hI.out.own hlt (((Fr.refl _ _).drewN q).trans hf)
     have hw3 : w.heap.size ≤ w3.heap.size := (hI.out.fr.trans (((Fr.refl _ _).drewN q).trans hf)).size
     obtain ⟨zn, rfl⟩ := ty_int hty
     rw [val_int]
     have HTY := hid hty
     have HST := hid hst
     have HFF := hid hf
     have HTX := hid htx
     clear hty hst hf htx
     rw [hsz] at hown
     go_wp2_with (at_builtin; refine wpList_pushS w3 rfl _ _ 51 3 rfl Tryz.underlying51 1 8 info_el_int (by decide) (by decide) w.heap.size _ 0 xs [.int .i64 zn] (by rfl) hown (by rfl) rfl HTY.out.one (by omega) hw3 ?_)
     intro g' cap w4 hown' hg hgb hglt
     rw [← hsz] at hown hown'
     have HI2 := hid (EInv.next rfl hlt hI.out HN.out ((Fr.refl _ _).drewN q) rfl HTY.out HST.out HFF.out HTX.out hown hown' hg hgb hglt)
     have a0 := HI2.out.small
     clear hown' hg hgb hglt hown
     go_wp2
     go_roundw
     case rel => exact ⟨_, _, HI2⟩
     case measure => simp [lenOf]
    ·have hkp : decide (0 < n') = true := by simp; omega
     have hn0 : 0 < n' := by omega
     go_wp2_with fail
     refine (rat_any _ br str (some r0) 41 41 rfl hI.out.rst).mono ?_
     rintro e w2 ⟨rfl, q, rfl⟩
     rw [HA.out]
     go_wp2_with fail
     refine (rsign_any _ br str (some r0) 32 32 rfl (hI.out.rst.drewN q)).mono ?_
     rintro e w2 ⟨rfl, hr2, hf2⟩
     have HR2 := hid hr2
     have HF2 := hid (((Fr.refl _ _).drewN q).trans hf2)
     clear hr2 hf2
     go_wp2_with fail
     refine (HE.out _ (want 32 (some r0)) ((hI.out.fr).trans HF2.out) HR2.out (fun r hr => hI.out.limit HL.out (by rw [if_neg hn]; exact hr))).mono ?_
     rintro e w3 ⟨v, rfl, hty, hst, hf, htx⟩
     obtain ⟨xs, hown⟩ := hI.out.own hlt (HF2.out.trans hf)
     have hw3 : w.heap.size ≤ w3.heap.size := (hI.out.fr.trans (HF2.out.trans hf)).size
     obtain ⟨zn, rfl⟩ := ty_int hty
     rw [val_int]
     have HTY := hid hty
     have HST := hid hst
     have HFF := hid hf
     have HTX := hid htx
     clear hty hst hf htx
     rw [hsz] at hown
     go_wp2_with (at_builtin; refine wpList_pushS w3 rfl _ _ 51 3 rfl Tryz.underlying51 1 8 info_el_int (by decide) (by decide) w.heap.size _ n' xs [.int .i64 zn] (by rfl) hown (by rfl) rfl HTY.out.one (by omega) hw3 ?_)
     intro g' cap w4 hown' hg hgb hglt
     rw [← hsz] at hown hown'
     have HI2 := hid (EInv.next rfl hlt hI.out HN.out HF2.out (if_neg hn) HTY.out HST.out HFF.out HTX.out hown hown' hg hgb hglt)
     have a0 := HI2.out.small
     clear hown' hg hgb hglt hown
     go_wp2
     go_roundw
     case rel => exact ⟨_, _, HI2⟩
     case measure => simp [lenOf]; omega
theorem info_el_rat : (Tryz.prog.info? 60).map (fun i => (i.size, i.bytes, i.zero.map fun z => z.cells.size)) = some (3, 56, some 3) := by kernel_rfl
set_option maxHeartbeats 2000000 in
set_option maxRecDepth 100000 in
theorem el_rat (L : Nat) (g : FuncId) (fi ca : Array Value) (w : World) (br : Nat) (str : ByteArray) (o : Option (List UInt8)) (h : Rst w br str o) (hL : ∀ r, o = some r → r.length ≤ L) (hel : ElR g (fi ++ ca) .rat L br str w) :
 Calls Tryz.prog 247 #[.pointer (some ⟨br, 0, none⟩), .func (.func g) fi ca] w (RPost (.list .rat) br str o w) := by
 obtain ⟨he, hel⟩ := hel
 unfold Enters at he
 have hlt := h.lt
 have hsz : Shape.sz .rat = 3 := rfl
 have HR := hid h
 have HL := hid hL
 have HE := hid hel
 clear h hL hel
 go_enter Tryz.func247, Tryz.ntmps247
 go_wp2_with fail
 refine (rsign_any _ br str o 40 40 rfl HR.out).mono ?_
 rintro e w1 ⟨rfl, hr1, hf1⟩
 have I0 := EInv.start (s := .rat) (e := 60) HR.out hr1 hf1
 have HI0 := hid I0
 clear I0 hr1 hf1
 go_wp2
 go_loopw [5] (fun lv wr => ∃ (n' : Nat) (o' : Option (List UInt8)), Hid (EInv .rat 60 br str o w lv n' o' wr)) (fun lv _ => 262146 - lenOf lv)
 case atStart => exact ⟨0, _, HI0⟩
 case round =>
  obtain ⟨n', o', hI⟩ := hrel
  clear HI0
  obtain ⟨A, c, rfl, hnc, hcm⟩ := hI.out.form
  have hsm := hI.out.small
  have c2 := hI.out.rst.cell
  unfold maxLen at hcm
  cases o' with
  | none =>
   go_wp2_with fail
   refine (rsign_any _ br str none 41 41 rfl hI.out.rst).mono ?_
   rintro e w2 ⟨rfl, hr2, hf2⟩
   go_wp2
   go_ret
   exact EInv.last hlt hI.out (.inl rfl) hr2 hf2
  | some r0 =>
   cases ha : isAt 41 (some r0) with
   | true =>
    have HA := hid ha
    clear ha
    go_wp2_with fail
    refine (rat_any _ br str (some r0) 41 41 rfl hI.out.rst).mono ?_
    rintro e w2 ⟨rfl, q, rfl⟩
    rw [HA.out]
    go_wp2_with fail
    refine (rsign_any _ br str (some r0) 41 41 rfl (hI.out.rst.drewN q)).mono ?_
    rintro e w2 ⟨rfl, hr2, hf2⟩
    go_wp2
    go_ret
    exact EInv.last hlt hI.out ((EInv.at hI.out).1 HA.out) hr2 (((Fr.refl _ _).drewN q).trans hf2)
   | false =>
    have HA := hid ha
    clear ha
    have hnat := (EInv.at hI.out).2 HA.out r0 rfl
    have HN := hid hnat
    clear hnat
    by_cases hn : n' = 0
    ·subst hn
     go_wp2_with fail
     refine (rat_any _ br str (some r0) 41 41 rfl hI.out.rst).mono ?_
     rintro e w2 ⟨rfl, q, rfl⟩
     rw [HA.out]
     go_wp2_with fail
     refine (HE.out _ (some r0) ((hI.out.fr).drewN q) (hI.out.rst.drewN q) (fun r hr => hI.out.limit HL.out hr)).mono ?_
     rintro e w3 ⟨v, rfl, hty, hst, hf, htx⟩
     obtain ⟨xs, hown⟩ := hI.out.own hlt (((Fr.refl _ _).drewN q).trans hf)
     have hw3 : w.heap.size ≤ w3.heap.size := (hI.out.fr.trans (((Fr.refl _ _).drewN q).trans hf)).size
     obtain ⟨zb, zA, zk, zc, zD, zl, zd, rfl⟩ := ty_rat hty
     rw [val_rat]
     have HTY := hid hty
     have HST := hid hst
     have HFF := hid hf
     have HTX := hid htx
     clear hty hst hf htx
     rw [hsz] at hown
     go_wp2_with (at_builtin; refine wpList_pushS w3 rfl _ _ 52 60 rfl Tryz.underlying52 3 56 info_el_rat (by decide) (by decide) w.heap.size _ 0 xs [.bool zb, .slice zA zk zc, .slice zD zl zd] (by rfl) hown (by rfl) rfl HTY.out.one (by omega) hw3 ?_)
     intro g' cap w4 hown' hg hgb hglt
     rw [← hsz] at hown hown'
     have HI2 := hid (EInv.next rfl hlt hI.out HN.out ((Fr.refl _ _).drewN q) rfl HTY.out HST.out HFF.out HTX.out hown hown' hg hgb hglt)
     have a0 := HI2.out.small
     clear hown' hg hgb hglt hown
     go_wp2
     go_roundw
     case rel => exact ⟨_, _, HI2⟩
     case measure => simp [lenOf]
    ·have hkp : decide (0 < n') = true := by simp; omega
     have hn0 : 0 < n' := by omega
     go_wp2_with fail
     refine (rat_any _ br str (some r0) 41 41 rfl hI.out.rst).mono ?_
     rintro e w2 ⟨rfl, q, rfl⟩
     rw [HA.out]
     go_wp2_with fail
     refine (rsign_any _ br str (some r0) 32 32 rfl (hI.out.rst.drewN q)).mono ?_
     rintro e w2 ⟨rfl, hr2, hf2⟩
     have HR2 := hid hr2
     have HF2 := hid (((Fr.refl _ _).drewN q).trans hf2)
     clear hr2 hf2
     go_wp2_with fail
     refine (HE.out _ (want 32 (some r0)) ((hI.out.fr).trans HF2.out) HR2.out (fun r hr => hI.out.limit HL.out (by rw [if_neg hn]; exact hr))).mono ?_
     rintro e w3 ⟨v, rfl, hty, hst, hf, htx⟩
     obtain ⟨xs, hown⟩ := hI.out.own hlt (HF2.out.trans hf)
     have hw3 : w.heap.size ≤ w3.heap.size := (hI.out.fr.trans (HF2.out.trans hf)).size
     obtain ⟨zb, zA, zk, zc, zD, zl, zd, rfl⟩ := ty_rat hty
     rw [val_rat]
     have HTY := hid hty
     have HST := hid hst
     have HFF := hid hf
     have HTX := hid htx
     clear hty hst hf htx
     rw [hsz] at hown
     go_wp2_with (at_builtin; refine wpList_pushS w3 rfl _ _ 52 60 rfl Tryz.underlying52 3 56 info_el_rat (by decide) (by decide) w.heap.size _ n' xs [.bool zb, .slice zA zk zc, .slice zD zl zd] (by rfl) hown (by rfl) rfl HTY.out.one (by omega) hw3 ?_)
     intro g' cap w4 hown' hg hgb hglt
     rw [← hsz] at hown hown'
     have HI2 := hid (EInv.next rfl hlt hI.out HN.out HF2.out (if_neg hn) HTY.out HST.out HFF.out HTX.out hown hown' hg hgb hglt)
     have a0 := HI2.out.small
     clear hown' hg hgb hglt hown
     go_wp2
     go_roundw
     case rel => exact ⟨_, _, HI2⟩
     case measure => simp [lenOf]; omega
theorem info_el_l_int : (Tryz.prog.info? 51).map (fun i => (i.size, i.bytes, i.zero.map fun z => z.cells.size)) = some (1, 24, some 1) := by kernel_rfl
set_option maxHeartbeats 2000000 in
set_option maxRecDepth 100000 in
theorem el_l_int (L : Nat) (g : FuncId) (fi ca : Array Value) (w : World) (br : Nat) (str : ByteArray) (o : Option (List UInt8)) (h : Rst w br str o) (hL : ∀ r, o = some r → r.length ≤ L) (hel : ElR g (fi ++ ca) (.list .int) L br str w) :
 Calls Tryz.prog 153 #[.pointer (some ⟨br, 0, none⟩), .func (.func g) fi ca] w (RPost (.list (.list .int)) br str o w) := by
 obtain ⟨he, hel⟩ := hel
 unfold Enters at he
 have hlt := h.lt
 have hsz : Shape.sz (.list .int) = 1 := rfl
 have HR := hid h
 have HL := hid hL
 have HE := hid hel
 clear h hL hel
 go_enter Tryz.func153, Tryz.ntmps153
 go_wp2_with fail
 refine (rsign_any _ br str o 40 40 rfl HR.out).mono ?_
 rintro e w1 ⟨rfl, hr1, hf1⟩
 have I0 := EInv.start (s := (.list .int)) (e := 51) HR.out hr1 hf1
 have HI0 := hid I0
 clear I0 hr1 hf1
 go_wp2
 go_loopw [5] (fun lv wr => ∃ (n' : Nat) (o' : Option (List UInt8)), Hid (EInv (.list .int) 51 br str o w lv n' o' wr)) (fun lv _ => 262146 - lenOf lv)
 case atStart => exact ⟨0, _, HI0⟩
 case round =>
  obtain ⟨n', o', hI⟩ := hrel
  clear HI0
  obtain ⟨A, c, rfl, hnc, hcm⟩ := hI.out.form
  have hsm := hI.out.small
  have c2 := hI.out.rst.cell
  unfold maxLen at hcm
  cases o' with
  | none =>
   go_wp2_with fail
   refine (rsign_any _ br str none 41 41 rfl hI.out.rst).mono ?_
   rintro e w2 ⟨rfl, hr2, hf2⟩
   go_wp2
   go_ret
   exact EInv.last hlt hI.out (.inl rfl) hr2 hf2
  | some r0 =>
   cases ha : isAt 41 (some r0) with
   | true =>
    have HA := hid ha
    clear ha
    go_wp2_with fail
    refine (rat_any _ br str (some r0) 41 41 rfl hI.out.rst).mono ?_
    rintro e w2 ⟨rfl, q, rfl⟩
    rw [HA.out]
    go_wp2_with fail
    refine (rsign_any _ br str (some r0) 41 41 rfl (hI.out.rst.drewN q)).mono ?_
    rintro e w2 ⟨rfl, hr2, hf2⟩
    go_wp2
    go_ret
    exact EInv.last hlt hI.out ((EInv.at hI.out).1 HA.out) hr2 (((Fr.refl _ _).drewN q).trans hf2)
   | false =>
    have HA := hid ha
    clear ha
    have hnat := (EInv.at hI.out).2 HA.out r0 rfl
    have HN := hid hnat
    clear hnat
    by_cases hn : n' = 0
    ·subst hn
     go_wp2_with fail
     refine (rat_any _ br str (some r0) 41 41 rfl hI.out.rst).mono ?_
     rintro e w2 ⟨rfl, q, rfl⟩
     rw [HA.out]
     go_wp2_with fail
     refine (HE.out _ (some r0) ((hI.out.fr).drewN q) (hI.out.rst.drewN q) (fun r hr => hI.out.limit HL.out hr)).mono ?_
     rintro e w3 ⟨v, rfl, hty, hst, hf, htx⟩
     obtain ⟨xs, hown⟩ := hI.out.own hlt (((Fr.refl _ _).drewN q).trans hf)
     have hw3 : w.heap.size ≤ w3.heap.size := (hI.out.fr.trans (((Fr.refl _ _).drewN q).trans hf)).size
     obtain ⟨zA, zk, zc, rfl⟩ := ty_list hty
     rw [val_list]
     have HTY := hid hty
     have HST := hid hst
     have HFF := hid hf
     have HTX := hid htx
     clear hty hst hf htx
     rw [hsz] at hown
     go_wp2_with (at_builtin; refine wpList_pushS w3 rfl _ _ 26 51 rfl Tryz.underlying26 1 24 info_el_l_int (by decide) (by decide) w.heap.size _ 0 xs [.slice zA zk zc] (by rfl) hown (by rfl) rfl HTY.out.one (by omega) hw3 ?_)
     intro g' cap w4 hown' hg hgb hglt
     rw [← hsz] at hown hown'
     have HI2 := hid (EInv.next rfl hlt hI.out HN.out ((Fr.refl _ _).drewN q) rfl HTY.out HST.out HFF.out HTX.out hown hown' hg hgb hglt)
     have a0 := HI2.out.small
     clear hown' hg hgb hglt hown
     go_wp2
     go_roundw
     case rel => exact ⟨_, _, HI2⟩
     case measure => simp [lenOf]
    ·have hkp : decide (0 < n') = true := by simp; omega
     have hn0 : 0 < n' := by omega
     go_wp2_with fail
     refine (rat_any _ br str (some r0) 41 41 rfl hI.out.rst).mono ?_
     rintro e w2 ⟨rfl, q, rfl⟩
     rw [HA.out]
     go_wp2_with fail
     refine (rsign_any _ br str (some r0) 32 32 rfl (hI.out.rst.drewN q)).mono ?_
     rintro e w2 ⟨rfl, hr2, hf2⟩
     have HR2 := hid hr2
     have HF2 := hid (((Fr.refl _ _).drewN q).trans hf2)
     clear hr2 hf2
     go_wp2_with fail
     refine (HE.out _ (want 32 (some r0)) ((hI.out.fr).trans HF2.out) HR2.out (fun r hr => hI.out.limit HL.out (by rw [if_neg hn]; exact hr))).mono ?_
     rintro e w3 ⟨v, rfl, hty, hst, hf, htx⟩
     obtain ⟨xs, hown⟩ := hI.out.own hlt (HF2.out.trans hf)
     have hw3 : w.heap.size ≤ w3.heap.size := (hI.out.fr.trans (HF2.out.trans hf)).size
     obtain ⟨zA, zk, zc, rfl⟩ := ty_list hty
     rw [val_list]
     have HTY := hid hty
     have HST := hid hst
     have HFF := hid hf
     have HTX := hid htx
     clear hty hst hf htx
     rw [hsz] at hown
     go_wp2_with (at_builtin; refine wpList_pushS w3 rfl _ _ 26 51 rfl Tryz.underlying26 1 24 info_el_l_int (by decide) (by decide) w.heap.size _ n' xs [.slice zA zk zc] (by rfl) hown (by rfl) rfl HTY.out.one (by omega) hw3 ?_)
     intro g' cap w4 hown' hg hgb hglt
     rw [← hsz] at hown hown'
     have HI2 := hid (EInv.next rfl hlt hI.out HN.out HF2.out (if_neg hn) HTY.out HST.out HFF.out HTX.out hown hown' hg hgb hglt)
     have a0 := HI2.out.small
     clear hown' hg hgb hglt hown
     go_wp2
     go_roundw
     case rel => exact ⟨_, _, HI2⟩
     case measure => simp [lenOf]; omega
theorem info_el_l_axiomUse : (Tryz.prog.info? 74).map (fun i => (i.size, i.bytes, i.zero.map fun z => z.cells.size)) = some (1, 24, some 1) := by kernel_rfl
set_option maxHeartbeats 2000000 in
set_option maxRecDepth 100000 in
theorem el_l_axiomUse (n : Nat) (L : Nat) (g : FuncId) (fi ca : Array Value) (w : World) (br : Nat) (str : ByteArray) (o : Option (List UInt8)) (h : Rst w br str o) (hL : ∀ r, o = some r → r.length ≤ L) (hel : ElR g (fi ++ ca) (.list (axuS n)) L br str w) :
 Calls Tryz.prog 178 #[.pointer (some ⟨br, 0, none⟩), .func (.func g) fi ca] w (RPost (.list (.list (axuS n))) br str o w) := by
 obtain ⟨he, hel⟩ := hel
 unfold Enters at he
 have hlt := h.lt
 have hsz : Shape.sz (.list (axuS n)) = 1 := rfl
 have HR := hid h
 have HL := hid hL
 have HE := hid hel
 clear h hL hel
 go_enter Tryz.func178, Tryz.ntmps178
 go_wp2_with fail
 refine (rsign_any _ br str o 40 40 rfl HR.out).mono ?_
 rintro e w1 ⟨rfl, hr1, hf1⟩
 have I0 := EInv.start (s := (.list (axuS n))) (e := 74) HR.out hr1 hf1
 have HI0 := hid I0
 clear I0 hr1 hf1
 go_wp2
 go_loopw [5] (fun lv wr => ∃ (n' : Nat) (o' : Option (List UInt8)), Hid (EInv (.list (axuS n)) 74 br str o w lv n' o' wr)) (fun lv _ => 262146 - lenOf lv)
 case atStart => exact ⟨0, _, HI0⟩
 case round =>
  obtain ⟨n', o', hI⟩ := hrel
  clear HI0
  obtain ⟨A, c, rfl, hnc, hcm⟩ := hI.out.form
  have hsm := hI.out.small
  have c2 := hI.out.rst.cell
  unfold maxLen at hcm
  cases o' with
  | none =>
   go_wp2_with fail
   refine (rsign_any _ br str none 41 41 rfl hI.out.rst).mono ?_
   rintro e w2 ⟨rfl, hr2, hf2⟩
   go_wp2
   go_ret
   exact EInv.last hlt hI.out (.inl rfl) hr2 hf2
  | some r0 =>
   cases ha : isAt 41 (some r0) with
   | true =>
    have HA := hid ha
    clear ha
    go_wp2_with fail
    refine (rat_any _ br str (some r0) 41 41 rfl hI.out.rst).mono ?_
    rintro e w2 ⟨rfl, q, rfl⟩
    rw [HA.out]
    go_wp2_with fail
    refine (rsign_any _ br str (some r0) 41 41 rfl (hI.out.rst.drewN q)).mono ?_
    rintro e w2 ⟨rfl, hr2, hf2⟩
    go_wp2
    go_ret
    exact EInv.last hlt hI.out ((EInv.at hI.out).1 HA.out) hr2 (((Fr.refl _ _).drewN q).trans hf2)
   | false =>
    have HA := hid ha
    clear ha
    have hnat := (EInv.at hI.out).2 HA.out r0 rfl
    have HN := hid hnat
    clear hnat
    by_cases hn : n' = 0
    ·subst hn
     go_wp2_with fail
     refine (rat_any _ br str (some r0) 41 41 rfl hI.out.rst).mono ?_
     rintro e w2 ⟨rfl, q, rfl⟩
     rw [HA.out]
     go_wp2_with fail
     refine (HE.out _ (some r0) ((hI.out.fr).drewN q) (hI.out.rst.drewN q) (fun r hr => hI.out.limit HL.out hr)).mono ?_
     rintro e w3 ⟨v, rfl, hty, hst, hf, htx⟩
     obtain ⟨xs, hown⟩ := hI.out.own hlt (((Fr.refl _ _).drewN q).trans hf)
     have hw3 : w.heap.size ≤ w3.heap.size := (hI.out.fr.trans (((Fr.refl _ _).drewN q).trans hf)).size
     obtain ⟨zA, zk, zc, rfl⟩ := ty_list hty
     rw [val_list]
     have HTY := hid hty
     have HST := hid hst
     have HFF := hid hf
     have HTX := hid htx
     clear hty hst hf htx
     rw [hsz] at hown
     go_wp2_with (at_builtin; refine wpList_pushS w3 rfl _ _ 53 74 rfl Tryz.underlying53 1 24 info_el_l_axiomUse (by decide) (by decide) w.heap.size _ 0 xs [.slice zA zk zc] (by rfl) hown (by rfl) rfl HTY.out.one (by omega) hw3 ?_)
     intro g' cap w4 hown' hg hgb hglt
     rw [← hsz] at hown hown'
     have HI2 := hid (EInv.next rfl hlt hI.out HN.out ((Fr.refl _ _).drewN q) rfl HTY.out HST.out HFF.out HTX.out hown hown' hg hgb hglt)
     have a0 := HI2.out.small
     clear hown' hg hgb hglt hown
     go_wp2
     go_roundw
     case rel => exact ⟨_, _, HI2⟩
     case measure => simp [lenOf]
    ·have hkp : decide (0 < n') = true := by simp; omega
     have hn0 : 0 < n' := by omega
     go_wp2_with fail
     refine (rat_any _ br str (some r0) 41 41 rfl hI.out.rst).mono ?_
     rintro e w2 ⟨rfl, q, rfl⟩
     rw [HA.out]
     go_wp2_with fail
     refine (rsign_any _ br str (some r0) 32 32 rfl (hI.out.rst.drewN q)).mono ?_
     rintro e w2 ⟨rfl, hr2, hf2⟩
     have HR2 := hid hr2
     have HF2 := hid (((Fr.refl _ _).drewN q).trans hf2)
     clear hr2 hf2
     go_wp2_with fail
     refine (HE.out _ (want 32 (some r0)) ((hI.out.fr).trans HF2.out) HR2.out (fun r hr => hI.out.limit HL.out (by rw [if_neg hn]; exact hr))).mono ?_
     rintro e w3 ⟨v, rfl, hty, hst, hf, htx⟩
     obtain ⟨xs, hown⟩ := hI.out.own hlt (HF2.out.trans hf)
     have hw3 : w.heap.size ≤ w3.heap.size := (hI.out.fr.trans (HF2.out.trans hf)).size
     obtain ⟨zA, zk, zc, rfl⟩ := ty_list hty
     rw [val_list]
     have HTY := hid hty
     have HST := hid hst
     have HFF := hid hf
     have HTX := hid htx
     clear hty hst hf htx
     rw [hsz] at hown
     go_wp2_with (at_builtin; refine wpList_pushS w3 rfl _ _ 53 74 rfl Tryz.underlying53 1 24 info_el_l_axiomUse (by decide) (by decide) w.heap.size _ n' xs [.slice zA zk zc] (by rfl) hown (by rfl) rfl HTY.out.one (by omega) hw3 ?_)
     intro g' cap w4 hown' hg hgb hglt
     rw [← hsz] at hown hown'
     have HI2 := hid (EInv.next rfl hlt hI.out HN.out HF2.out (if_neg hn) HTY.out HST.out HFF.out HTX.out hown hown' hg hgb hglt)
     have a0 := HI2.out.small
     clear hown' hg hgb hglt hown
     go_wp2
     go_roundw
     case rel => exact ⟨_, _, HI2⟩
     case measure => simp [lenOf]; omega
theorem info_el_linTerm : (Tryz.prog.info? 195).map (fun i => (i.size, i.bytes, i.zero.map fun z => z.cells.size)) = some (2, 16, some 2) := by kernel_rfl
set_option maxHeartbeats 2000000 in
set_option maxRecDepth 100000 in
theorem el_linTerm (L : Nat) (g : FuncId) (fi ca : Array Value) (w : World) (br : Nat) (str : ByteArray) (o : Option (List UInt8)) (h : Rst w br str o) (hL : ∀ r, o = some r → r.length ≤ L) (hel : ElR g (fi ++ ca) linTermS L br str w) :
 Calls Tryz.prog 229 #[.pointer (some ⟨br, 0, none⟩), .func (.func g) fi ca] w (RPost (.list linTermS) br str o w) := by
 obtain ⟨he, hel⟩ := hel
 unfold Enters at he
 have hlt := h.lt
 have hsz : Shape.sz linTermS = 2 := sz_linTerm
 have HR := hid h
 have HL := hid hL
 have HE := hid hel
 clear h hL hel
 go_enter Tryz.func229, Tryz.ntmps229
 go_wp2_with fail
 refine (rsign_any _ br str o 40 40 rfl HR.out).mono ?_
 rintro e w1 ⟨rfl, hr1, hf1⟩
 have I0 := EInv.start (s := linTermS) (e := 195) HR.out hr1 hf1
 have HI0 := hid I0
 clear I0 hr1 hf1
 go_wp2
 go_loopw [5] (fun lv wr => ∃ (n' : Nat) (o' : Option (List UInt8)), Hid (EInv linTermS 195 br str o w lv n' o' wr)) (fun lv _ => 262146 - lenOf lv)
 case atStart => exact ⟨0, _, HI0⟩
 case round =>
  obtain ⟨n', o', hI⟩ := hrel
  clear HI0
  obtain ⟨A, c, rfl, hnc, hcm⟩ := hI.out.form
  have hsm := hI.out.small
  have c2 := hI.out.rst.cell
  unfold maxLen at hcm
  cases o' with
  | none =>
   go_wp2_with fail
   refine (rsign_any _ br str none 41 41 rfl hI.out.rst).mono ?_
   rintro e w2 ⟨rfl, hr2, hf2⟩
   go_wp2
   go_ret
   exact EInv.last hlt hI.out (.inl rfl) hr2 hf2
  | some r0 =>
   cases ha : isAt 41 (some r0) with
   | true =>
    have HA := hid ha
    clear ha
    go_wp2_with fail
    refine (rat_any _ br str (some r0) 41 41 rfl hI.out.rst).mono ?_
    rintro e w2 ⟨rfl, q, rfl⟩
    rw [HA.out]
    go_wp2_with fail
    refine (rsign_any _ br str (some r0) 41 41 rfl (hI.out.rst.drewN q)).mono ?_
    rintro e w2 ⟨rfl, hr2, hf2⟩
    go_wp2
    go_ret
    exact EInv.last hlt hI.out ((EInv.at hI.out).1 HA.out) hr2 (((Fr.refl _ _).drewN q).trans hf2)
   | false =>
    have HA := hid ha
    clear ha
    have hnat := (EInv.at hI.out).2 HA.out r0 rfl
    have HN := hid hnat
    clear hnat
    by_cases hn : n' = 0
    ·subst hn
     go_wp2_with fail
     refine (rat_any _ br str (some r0) 41 41 rfl hI.out.rst).mono ?_
     rintro e w2 ⟨rfl, q, rfl⟩
     rw [HA.out]
     go_wp2_with fail
     refine (HE.out _ (some r0) ((hI.out.fr).drewN q) (hI.out.rst.drewN q) (fun r hr => hI.out.limit HL.out hr)).mono ?_
     rintro e w3 ⟨v, rfl, hty, hst, hf, htx⟩
     obtain ⟨xs, hown⟩ := hI.out.own hlt (((Fr.refl _ _).drewN q).trans hf)
     have hw3 : w.heap.size ≤ w3.heap.size := (hI.out.fr.trans (((Fr.refl _ _).drewN q).trans hf)).size
     obtain ⟨z0n, z1n, rfl⟩ := ty_linTerm hty
     rw [val_linTerm]
     have HTY := hid hty
     have HST := hid hst
     have HFF := hid hf
     have HTX := hid htx
     clear hty hst hf htx
     rw [hsz] at hown
     go_wp2_with (at_builtin; refine wpList_pushS w3 rfl _ _ 128 195 rfl Tryz.underlying128 2 16 info_el_linTerm (by decide) (by decide) w.heap.size _ 0 xs [.int .i64 z0n, .int .i64 z1n] (by rfl) hown (by rfl) rfl HTY.out.one (by omega) hw3 ?_)
     intro g' cap w4 hown' hg hgb hglt
     rw [← hsz] at hown hown'
     have HI2 := hid (EInv.next one_linTerm hlt hI.out HN.out ((Fr.refl _ _).drewN q) rfl HTY.out HST.out HFF.out HTX.out hown hown' hg hgb hglt)
     have a0 := HI2.out.small
     clear hown' hg hgb hglt hown
     go_wp2
     go_roundw
     case rel => exact ⟨_, _, HI2⟩
     case measure => simp [lenOf]
    ·have hkp : decide (0 < n') = true := by simp; omega
     have hn0 : 0 < n' := by omega
     go_wp2_with fail
     refine (rat_any _ br str (some r0) 41 41 rfl hI.out.rst).mono ?_
     rintro e w2 ⟨rfl, q, rfl⟩
     rw [HA.out]
     go_wp2_with fail
     refine (rsign_any _ br str (some r0) 32 32 rfl (hI.out.rst.drewN q)).mono ?_
     rintro e w2 ⟨rfl, hr2, hf2⟩
     have HR2 := hid hr2
     have HF2 := hid (((Fr.refl _ _).drewN q).trans hf2)
     clear hr2 hf2
     go_wp2_with fail
     refine (HE.out _ (want 32 (some r0)) ((hI.out.fr).trans HF2.out) HR2.out (fun r hr => hI.out.limit HL.out (by rw [if_neg hn]; exact hr))).mono ?_
     rintro e w3 ⟨v, rfl, hty, hst, hf, htx⟩
     obtain ⟨xs, hown⟩ := hI.out.own hlt (HF2.out.trans hf)
     have hw3 : w.heap.size ≤ w3.heap.size := (hI.out.fr.trans (HF2.out.trans hf)).size
     obtain ⟨z0n, z1n, rfl⟩ := ty_linTerm hty
     rw [val_linTerm]
     have HTY := hid hty
     have HST := hid hst
     have HFF := hid hf
     have HTX := hid htx
     clear hty hst hf htx
     rw [hsz] at hown
     go_wp2_with (at_builtin; refine wpList_pushS w3 rfl _ _ 128 195 rfl Tryz.underlying128 2 16 info_el_linTerm (by decide) (by decide) w.heap.size _ n' xs [.int .i64 z0n, .int .i64 z1n] (by rfl) hown (by rfl) rfl HTY.out.one (by omega) hw3 ?_)
     intro g' cap w4 hown' hg hgb hglt
     rw [← hsz] at hown hown'
     have HI2 := hid (EInv.next one_linTerm hlt hI.out HN.out HF2.out (if_neg hn) HTY.out HST.out HFF.out HTX.out hown hown' hg hgb hglt)
     have a0 := HI2.out.small
     clear hown' hg hgb hglt hown
     go_wp2
     go_roundw
     case rel => exact ⟨_, _, HI2⟩
     case measure => simp [lenOf]; omega
theorem info_el_lin : (Tryz.prog.info? 130).map (fun i => (i.size, i.bytes, i.zero.map fun z => z.cells.size)) = some (2, 32, some 2) := by kernel_rfl
set_option maxHeartbeats 2000000 in
set_option maxRecDepth 100000 in
theorem el_lin (L : Nat) (g : FuncId) (fi ca : Array Value) (w : World) (br : Nat) (str : ByteArray) (o : Option (List UInt8)) (h : Rst w br str o) (hL : ∀ r, o = some r → r.length ≤ L) (hel : ElR g (fi ++ ca) linS L br str w) :
 Calls Tryz.prog 149 #[.pointer (some ⟨br, 0, none⟩), .func (.func g) fi ca] w (RPost (.list linS) br str o w) := by
 obtain ⟨he, hel⟩ := hel
 unfold Enters at he
 have hlt := h.lt
 have hsz : Shape.sz linS = 2 := sz_lin
 have HR := hid h
 have HL := hid hL
 have HE := hid hel
 clear h hL hel
 go_enter Tryz.func149, Tryz.ntmps149
 go_wp2_with fail
 refine (rsign_any _ br str o 40 40 rfl HR.out).mono ?_
 rintro e w1 ⟨rfl, hr1, hf1⟩
 have I0 := EInv.start (s := linS) (e := 130) HR.out hr1 hf1
 have HI0 := hid I0
 clear I0 hr1 hf1
 go_wp2
 go_loopw [5] (fun lv wr => ∃ (n' : Nat) (o' : Option (List UInt8)), Hid (EInv linS 130 br str o w lv n' o' wr)) (fun lv _ => 262146 - lenOf lv)
 case atStart => exact ⟨0, _, HI0⟩
 case round =>
  obtain ⟨n', o', hI⟩ := hrel
  clear HI0
  obtain ⟨A, c, rfl, hnc, hcm⟩ := hI.out.form
  have hsm := hI.out.small
  have c2 := hI.out.rst.cell
  unfold maxLen at hcm
  cases o' with
  | none =>
   go_wp2_with fail
   refine (rsign_any _ br str none 41 41 rfl hI.out.rst).mono ?_
   rintro e w2 ⟨rfl, hr2, hf2⟩
   go_wp2
   go_ret
   exact EInv.last hlt hI.out (.inl rfl) hr2 hf2
  | some r0 =>
   cases ha : isAt 41 (some r0) with
   | true =>
    have HA := hid ha
    clear ha
    go_wp2_with fail
    refine (rat_any _ br str (some r0) 41 41 rfl hI.out.rst).mono ?_
    rintro e w2 ⟨rfl, q, rfl⟩
    rw [HA.out]
    go_wp2_with fail
    refine (rsign_any _ br str (some r0) 41 41 rfl (hI.out.rst.drewN q)).mono ?_
    rintro e w2 ⟨rfl, hr2, hf2⟩
    go_wp2
    go_ret
    exact EInv.last hlt hI.out ((EInv.at hI.out).1 HA.out) hr2 (((Fr.refl _ _).drewN q).trans hf2)
   | false =>
    have HA := hid ha
    clear ha
    have hnat := (EInv.at hI.out).2 HA.out r0 rfl
    have HN := hid hnat
    clear hnat
    by_cases hn : n' = 0
    ·subst hn
     go_wp2_with fail
     refine (rat_any _ br str (some r0) 41 41 rfl hI.out.rst).mono ?_
     rintro e w2 ⟨rfl, q, rfl⟩
     rw [HA.out]
     go_wp2_with fail
     refine (HE.out _ (some r0) ((hI.out.fr).drewN q) (hI.out.rst.drewN q) (fun r hr => hI.out.limit HL.out hr)).mono ?_
     rintro e w3 ⟨v, rfl, hty, hst, hf, htx⟩
     obtain ⟨xs, hown⟩ := hI.out.own hlt (((Fr.refl _ _).drewN q).trans hf)
     have hw3 : w.heap.size ≤ w3.heap.size := (hI.out.fr.trans (((Fr.refl _ _).drewN q).trans hf)).size
     obtain ⟨z0n, z1A, z1k, z1c, rfl⟩ := ty_lin hty
     rw [val_lin]
     have HTY := hid hty
     have HST := hid hst
     have HFF := hid hf
     have HTX := hid htx
     clear hty hst hf htx
     rw [hsz] at hown
     go_wp2_with (at_builtin; refine wpList_pushS w3 rfl _ _ 85 130 rfl Tryz.underlying85 2 32 info_el_lin (by decide) (by decide) w.heap.size _ 0 xs [.int .i64 z0n, .slice z1A z1k z1c] (by rfl) hown (by rfl) rfl HTY.out.one (by omega) hw3 ?_)
     intro g' cap w4 hown' hg hgb hglt
     rw [← hsz] at hown hown'
     have HI2 := hid (EInv.next one_lin hlt hI.out HN.out ((Fr.refl _ _).drewN q) rfl HTY.out HST.out HFF.out HTX.out hown hown' hg hgb hglt)
     have a0 := HI2.out.small
     clear hown' hg hgb hglt hown
     go_wp2
     go_roundw
     case rel => exact ⟨_, _, HI2⟩
     case measure => simp [lenOf]
    ·have hkp : decide (0 < n') = true := by simp; omega
     have hn0 : 0 < n' := by omega
     go_wp2_with fail
     refine (rat_any _ br str (some r0) 41 41 rfl hI.out.rst).mono ?_
     rintro e w2 ⟨rfl, q, rfl⟩
     rw [HA.out]
     go_wp2_with fail
     refine (rsign_any _ br str (some r0) 32 32 rfl (hI.out.rst.drewN q)).mono ?_
     rintro e w2 ⟨rfl, hr2, hf2⟩
     have HR2 := hid hr2
     have HF2 := hid (((Fr.refl _ _).drewN q).trans hf2)
     clear hr2 hf2
     go_wp2_with fail
     refine (HE.out _ (want 32 (some r0)) ((hI.out.fr).trans HF2.out) HR2.out (fun r hr => hI.out.limit HL.out (by rw [if_neg hn]; exact hr))).mono ?_
     rintro e w3 ⟨v, rfl, hty, hst, hf, htx⟩
     obtain ⟨xs, hown⟩ := hI.out.own hlt (HF2.out.trans hf)
     have hw3 : w.heap.size ≤ w3.heap.size := (hI.out.fr.trans (HF2.out.trans hf)).size
     obtain ⟨z0n, z1A, z1k, z1c, rfl⟩ := ty_lin hty
     rw [val_lin]
     have HTY := hid hty
     have HST := hid hst
     have HFF := hid hf
     have HTX := hid htx
     clear hty hst hf htx
     rw [hsz] at hown
     go_wp2_with (at_builtin; refine wpList_pushS w3 rfl _ _ 85 130 rfl Tryz.underlying85 2 32 info_el_lin (by decide) (by decide) w.heap.size _ n' xs [.int .i64 z0n, .slice z1A z1k z1c] (by rfl) hown (by rfl) rfl HTY.out.one (by omega) hw3 ?_)
     intro g' cap w4 hown' hg hgb hglt
     rw [← hsz] at hown hown'
     have HI2 := hid (EInv.next one_lin hlt hI.out HN.out HF2.out (if_neg hn) HTY.out HST.out HFF.out HTX.out hown hown' hg hgb hglt)
     have a0 := HI2.out.small
     clear hown' hg hgb hglt hown
     go_wp2
     go_roundw
     case rel => exact ⟨_, _, HI2⟩
     case measure => simp [lenOf]; omega
theorem info_el_relation : (Tryz.prog.info? 87).map (fun i => (i.size, i.bytes, i.zero.map fun z => z.cells.size)) = some (2, 48, some 2) := by kernel_rfl
set_option maxHeartbeats 2000000 in
set_option maxRecDepth 100000 in
theorem el_relation (L : Nat) (g : FuncId) (fi ca : Array Value) (w : World) (br : Nat) (str : ByteArray) (o : Option (List UInt8)) (h : Rst w br str o) (hL : ∀ r, o = some r → r.length ≤ L) (hel : ElR g (fi ++ ca) relationS L br str w) :
 Calls Tryz.prog 72 #[.pointer (some ⟨br, 0, none⟩), .func (.func g) fi ca] w (RPost (.list relationS) br str o w) := by
 obtain ⟨he, hel⟩ := hel
 unfold Enters at he
 have hlt := h.lt
 have hsz : Shape.sz relationS = 2 := sz_relation
 have HR := hid h
 have HL := hid hL
 have HE := hid hel
 clear h hL hel
 go_enter Tryz.func72, Tryz.ntmps72
 go_wp2_with fail
 refine (rsign_any _ br str o 40 40 rfl HR.out).mono ?_
 rintro e w1 ⟨rfl, hr1, hf1⟩
 have I0 := EInv.start (s := relationS) (e := 87) HR.out hr1 hf1
 have HI0 := hid I0
 clear I0 hr1 hf1
 go_wp2
 go_loopw [5] (fun lv wr => ∃ (n' : Nat) (o' : Option (List UInt8)), Hid (EInv relationS 87 br str o w lv n' o' wr)) (fun lv _ => 262146 - lenOf lv)
 case atStart => exact ⟨0, _, HI0⟩
 case round =>
  obtain ⟨n', o', hI⟩ := hrel
  clear HI0
  obtain ⟨A, c, rfl, hnc, hcm⟩ := hI.out.form
  have hsm := hI.out.small
  have c2 := hI.out.rst.cell
  unfold maxLen at hcm
  cases o' with
  | none =>
   go_wp2_with fail
   refine (rsign_any _ br str none 41 41 rfl hI.out.rst).mono ?_
   rintro e w2 ⟨rfl, hr2, hf2⟩
   go_wp2
   go_ret
   exact EInv.last hlt hI.out (.inl rfl) hr2 hf2
  | some r0 =>
   cases ha : isAt 41 (some r0) with
   | true =>
    have HA := hid ha
    clear ha
    go_wp2_with fail
    refine (rat_any _ br str (some r0) 41 41 rfl hI.out.rst).mono ?_
    rintro e w2 ⟨rfl, q, rfl⟩
    rw [HA.out]
    go_wp2_with fail
    refine (rsign_any _ br str (some r0) 41 41 rfl (hI.out.rst.drewN q)).mono ?_
    rintro e w2 ⟨rfl, hr2, hf2⟩
    go_wp2
    go_ret
    exact EInv.last hlt hI.out ((EInv.at hI.out).1 HA.out) hr2 (((Fr.refl _ _).drewN q).trans hf2)
   | false =>
    have HA := hid ha
    clear ha
    have hnat := (EInv.at hI.out).2 HA.out r0 rfl
    have HN := hid hnat
    clear hnat
    by_cases hn : n' = 0
    ·subst hn
     go_wp2_with fail
     refine (rat_any _ br str (some r0) 41 41 rfl hI.out.rst).mono ?_
     rintro e w2 ⟨rfl, q, rfl⟩
     rw [HA.out]
     go_wp2_with fail
     refine (HE.out _ (some r0) ((hI.out.fr).drewN q) (hI.out.rst.drewN q) (fun r hr => hI.out.limit HL.out hr)).mono ?_
     rintro e w3 ⟨v, rfl, hty, hst, hf, htx⟩
     obtain ⟨xs, hown⟩ := hI.out.own hlt (((Fr.refl _ _).drewN q).trans hf)
     have hw3 : w.heap.size ≤ w3.heap.size := (hI.out.fr.trans (((Fr.refl _ _).drewN q).trans hf)).size
     obtain ⟨z0A, z0k, z0c, z1A, z1k, z1c, rfl⟩ := ty_relation hty
     rw [val_relation]
     have HTY := hid hty
     have HST := hid hst
     have HFF := hid hf
     have HTX := hid htx
     clear hty hst hf htx
     rw [hsz] at hown
     go_wp2_with (at_builtin; refine wpList_pushS w3 rfl _ _ 25 87 rfl Tryz.underlying25 2 48 info_el_relation (by decide) (by decide) w.heap.size _ 0 xs [.slice z0A z0k z0c, .slice z1A z1k z1c] (by rfl) hown (by rfl) rfl HTY.out.one (by omega) hw3 ?_)
     intro g' cap w4 hown' hg hgb hglt
     rw [← hsz] at hown hown'
     have HI2 := hid (EInv.next one_relation hlt hI.out HN.out ((Fr.refl _ _).drewN q) rfl HTY.out HST.out HFF.out HTX.out hown hown' hg hgb hglt)
     have a0 := HI2.out.small
     clear hown' hg hgb hglt hown
     go_wp2
     go_roundw
     case rel => exact ⟨_, _, HI2⟩
     case measure => simp [lenOf]
    ·have hkp : decide (0 < n') = true := by simp; omega
     have hn0 : 0 < n' := by omega
     go_wp2_with fail
     refine (rat_any _ br str (some r0) 41 41 rfl hI.out.rst).mono ?_
     rintro e w2 ⟨rfl, q, rfl⟩
     rw [HA.out]
     go_wp2_with fail
     refine (rsign_any _ br str (some r0) 32 32 rfl (hI.out.rst.drewN q)).mono ?_
     rintro e w2 ⟨rfl, hr2, hf2⟩
     have HR2 := hid hr2
     have HF2 := hid (((Fr.refl _ _).drewN q).trans hf2)
     clear hr2 hf2
     go_wp2_with fail
     refine (HE.out _ (want 32 (some r0)) ((hI.out.fr).trans HF2.out) HR2.out (fun r hr => hI.out.limit HL.out (by rw [if_neg hn]; exact hr))).mono ?_
     rintro e w3 ⟨v, rfl, hty, hst, hf, htx⟩
     obtain ⟨xs, hown⟩ := hI.out.own hlt (HF2.out.trans hf)
     have hw3 : w.heap.size ≤ w3.heap.size := (hI.out.fr.trans (HF2.out.trans hf)).size
     obtain ⟨z0A, z0k, z0c, z1A, z1k, z1c, rfl⟩ := ty_relation hty
     rw [val_relation]
     have HTY := hid hty
     have HST := hid hst
     have HFF := hid hf
     have HTX := hid htx
     clear hty hst hf htx
     rw [hsz] at hown
     go_wp2_with (at_builtin; refine wpList_pushS w3 rfl _ _ 25 87 rfl Tryz.underlying25 2 48 info_el_relation (by decide) (by decide) w.heap.size _ n' xs [.slice z0A z0k z0c, .slice z1A z1k z1c] (by rfl) hown (by rfl) rfl HTY.out.one (by omega) hw3 ?_)
     intro g' cap w4 hown' hg hgb hglt
     rw [← hsz] at hown hown'
     have HI2 := hid (EInv.next one_relation hlt hI.out HN.out HF2.out (if_neg hn) HTY.out HST.out HFF.out HTX.out hown hown' hg hgb hglt)
     have a0 := HI2.out.small
     clear hown' hg hgb hglt hown
     go_wp2
     go_roundw
     case rel => exact ⟨_, _, HI2⟩
     case measure => simp [lenOf]; omega
theorem info_el_typ : (Tryz.prog.info? 92).map (fun i => (i.size, i.bytes, i.zero.map fun z => z.cells.size)) = some (3, 40, some 3) := by kernel_rfl
set_option maxHeartbeats 2000000 in
set_option maxRecDepth 100000 in
theorem el_typ (n : Nat) (L : Nat) (g : FuncId) (fi ca : Array Value) (w : World) (br : Nat) (str : ByteArray) (o : Option (List UInt8)) (h : Rst w br str o) (hL : ∀ r, o = some r → r.length ≤ L) (hel : ElR g (fi ++ ca) (typS n) L br str w) :
 Calls Tryz.prog 295 #[.pointer (some ⟨br, 0, none⟩), .func (.func g) fi ca] w (RPost (.list (typS n)) br str o w) := by
 obtain ⟨he, hel⟩ := hel
 unfold Enters at he
 have hlt := h.lt
 have hsz : Shape.sz (typS n) = 3 := sz_typ
 have HR := hid h
 have HL := hid hL
 have HE := hid hel
 clear h hL hel
 go_enter Tryz.func295, Tryz.ntmps295
 go_wp2_with fail
 refine (rsign_any _ br str o 40 40 rfl HR.out).mono ?_
 rintro e w1 ⟨rfl, hr1, hf1⟩
 have I0 := EInv.start (s := (typS n)) (e := 92) HR.out hr1 hf1
 have HI0 := hid I0
 clear I0 hr1 hf1
 go_wp2
 go_loopw [5] (fun lv wr => ∃ (n' : Nat) (o' : Option (List UInt8)), Hid (EInv (typS n) 92 br str o w lv n' o' wr)) (fun lv _ => 262146 - lenOf lv)
 case atStart => exact ⟨0, _, HI0⟩
 case round =>
  obtain ⟨n', o', hI⟩ := hrel
  clear HI0
  obtain ⟨A, c, rfl, hnc, hcm⟩ := hI.out.form
  have hsm := hI.out.small
  have c2 := hI.out.rst.cell
  unfold maxLen at hcm
  cases o' with
  | none =>
   go_wp2_with fail
   refine (rsign_any _ br str none 41 41 rfl hI.out.rst).mono ?_
   rintro e w2 ⟨rfl, hr2, hf2⟩
   go_wp2
   go_ret
   exact EInv.last hlt hI.out (.inl rfl) hr2 hf2
  | some r0 =>
   cases ha : isAt 41 (some r0) with
   | true =>
    have HA := hid ha
    clear ha
    go_wp2_with fail
    refine (rat_any _ br str (some r0) 41 41 rfl hI.out.rst).mono ?_
    rintro e w2 ⟨rfl, q, rfl⟩
    rw [HA.out]
    go_wp2_with fail
    refine (rsign_any _ br str (some r0) 41 41 rfl (hI.out.rst.drewN q)).mono ?_
    rintro e w2 ⟨rfl, hr2, hf2⟩
    go_wp2
    go_ret
    exact EInv.last hlt hI.out ((EInv.at hI.out).1 HA.out) hr2 (((Fr.refl _ _).drewN q).trans hf2)
   | false =>
    have HA := hid ha
    clear ha
    have hnat := (EInv.at hI.out).2 HA.out r0 rfl
    have HN := hid hnat
    clear hnat
    by_cases hn : n' = 0
    ·subst hn
     go_wp2_with fail
     refine (rat_any _ br str (some r0) 41 41 rfl hI.out.rst).mono ?_
     rintro e w2 ⟨rfl, q, rfl⟩
     rw [HA.out]
     go_wp2_with fail
     refine (HE.out _ (some r0) ((hI.out.fr).drewN q) (hI.out.rst.drewN q) (fun r hr => hI.out.limit HL.out hr)).mono ?_
     rintro e w3 ⟨v, rfl, hty, hst, hf, htx⟩
     obtain ⟨xs, hown⟩ := hI.out.own hlt (((Fr.refl _ _).drewN q).trans hf)
     have hw3 : w.heap.size ≤ w3.heap.size := (hI.out.fr.trans (((Fr.refl _ _).drewN q).trans hf)).size
     obtain ⟨z0n, z1n, z2A, z2k, z2c, rfl⟩ := ty_typ hty
     rw [val_typ]
     have HTY := hid hty
     have HST := hid hst
     have HFF := hid hf
     have HTX := hid htx
     clear hty hst hf htx
     rw [hsz] at hown
     go_wp2_with (at_builtin; refine wpList_pushS w3 rfl _ _ 90 92 rfl Tryz.underlying90 3 40 info_el_typ (by decide) (by decide) w.heap.size _ 0 xs [.int .i64 z0n, .int .i64 z1n, .slice z2A z2k z2c] (by rfl) hown (by rfl) rfl HTY.out.one (by omega) hw3 ?_)
     intro g' cap w4 hown' hg hgb hglt
     rw [← hsz] at hown hown'
     have HI2 := hid (EInv.next one_typ hlt hI.out HN.out ((Fr.refl _ _).drewN q) rfl HTY.out HST.out HFF.out HTX.out hown hown' hg hgb hglt)
     have a0 := HI2.out.small
     clear hown' hg hgb hglt hown
     go_wp2
     go_roundw
     case rel => exact ⟨_, _, HI2⟩
     case measure => simp [lenOf]
    ·have hkp : decide (0 < n') = true := by simp; omega
     have hn0 : 0 < n' := by omega
     go_wp2_with fail
     refine (rat_any _ br str (some r0) 41 41 rfl hI.out.rst).mono ?_
     rintro e w2 ⟨rfl, q, rfl⟩
     rw [HA.out]
     go_wp2_with fail
     refine (rsign_any _ br str (some r0) 32 32 rfl (hI.out.rst.drewN q)).mono ?_
     rintro e w2 ⟨rfl, hr2, hf2⟩
     have HR2 := hid hr2
     have HF2 := hid (((Fr.refl _ _).drewN q).trans hf2)
     clear hr2 hf2
     go_wp2_with fail
     refine (HE.out _ (want 32 (some r0)) ((hI.out.fr).trans HF2.out) HR2.out (fun r hr => hI.out.limit HL.out (by rw [if_neg hn]; exact hr))).mono ?_
     rintro e w3 ⟨v, rfl, hty, hst, hf, htx⟩
     obtain ⟨xs, hown⟩ := hI.out.own hlt (HF2.out.trans hf)
     have hw3 : w.heap.size ≤ w3.heap.size := (hI.out.fr.trans (HF2.out.trans hf)).size
     obtain ⟨z0n, z1n, z2A, z2k, z2c, rfl⟩ := ty_typ hty
     rw [val_typ]
     have HTY := hid hty
     have HST := hid hst
     have HFF := hid hf
     have HTX := hid htx
     clear hty hst hf htx
     rw [hsz] at hown
     go_wp2_with (at_builtin; refine wpList_pushS w3 rfl _ _ 90 92 rfl Tryz.underlying90 3 40 info_el_typ (by decide) (by decide) w.heap.size _ n' xs [.int .i64 z0n, .int .i64 z1n, .slice z2A z2k z2c] (by rfl) hown (by rfl) rfl HTY.out.one (by omega) hw3 ?_)
     intro g' cap w4 hown' hg hgb hglt
     rw [← hsz] at hown hown'
     have HI2 := hid (EInv.next one_typ hlt hI.out HN.out HF2.out (if_neg hn) HTY.out HST.out HFF.out HTX.out hown hown' hg hgb hglt)
     have a0 := HI2.out.small
     clear hown' hg hgb hglt hown
     go_wp2
     go_roundw
     case rel => exact ⟨_, _, HI2⟩
     case measure => simp [lenOf]; omega
theorem info_el_store : (Tryz.prog.info? 94).map (fun i => (i.size, i.bytes, i.zero.map fun z => z.cells.size)) = some (4, 64, some 4) := by kernel_rfl
set_option maxHeartbeats 2000000 in
set_option maxRecDepth 100000 in
theorem el_store (n : Nat) (L : Nat) (g : FuncId) (fi ca : Array Value) (w : World) (br : Nat) (str : ByteArray) (o : Option (List UInt8)) (h : Rst w br str o) (hL : ∀ r, o = some r → r.length ≤ L) (hel : ElR g (fi ++ ca) (storeS n) L br str w) :
 Calls Tryz.prog 157 #[.pointer (some ⟨br, 0, none⟩), .func (.func g) fi ca] w (RPost (.list (storeS n)) br str o w) := by
 obtain ⟨he, hel⟩ := hel
 unfold Enters at he
 have hlt := h.lt
 have hsz : Shape.sz (storeS n) = 4 := sz_store
 have HR := hid h
 have HL := hid hL
 have HE := hid hel
 clear h hL hel
 go_enter Tryz.func157, Tryz.ntmps157
 go_wp2_with fail
 refine (rsign_any _ br str o 40 40 rfl HR.out).mono ?_
 rintro e w1 ⟨rfl, hr1, hf1⟩
 have I0 := EInv.start (s := (storeS n)) (e := 94) HR.out hr1 hf1
 have HI0 := hid I0
 clear I0 hr1 hf1
 go_wp2
 go_loopw [5] (fun lv wr => ∃ (n' : Nat) (o' : Option (List UInt8)), Hid (EInv (storeS n) 94 br str o w lv n' o' wr)) (fun lv _ => 262146 - lenOf lv)
 case atStart => exact ⟨0, _, HI0⟩
 case round =>
  obtain ⟨n', o', hI⟩ := hrel
  clear HI0
  obtain ⟨A, c, rfl, hnc, hcm⟩ := hI.out.form
  have hsm := hI.out.small
  have c2 := hI.out.rst.cell
  unfold maxLen at hcm
  cases o' with
  | none =>
   go_wp2_with fail
   refine (rsign_any _ br str none 41 41 rfl hI.out.rst).mono ?_
   rintro e w2 ⟨rfl, hr2, hf2⟩
   go_wp2
   go_ret
   exact EInv.last hlt hI.out (.inl rfl) hr2 hf2
  | some r0 =>
   cases ha : isAt 41 (some r0) with
   | true =>
    have HA := hid ha
    clear ha
    go_wp2_with fail
    refine (rat_any _ br str (some r0) 41 41 rfl hI.out.rst).mono ?_
    rintro e w2 ⟨rfl, q, rfl⟩
    rw [HA.out]
    go_wp2_with fail
    refine (rsign_any _ br str (some r0) 41 41 rfl (hI.out.rst.drewN q)).mono ?_
    rintro e w2 ⟨rfl, hr2, hf2⟩
    go_wp2
    go_ret
    exact EInv.last hlt hI.out ((EInv.at hI.out).1 HA.out) hr2 (((Fr.refl _ _).drewN q).trans hf2)
   | false =>
    have HA := hid ha
    clear ha
    have hnat := (EInv.at hI.out).2 HA.out r0 rfl
    have HN := hid hnat
    clear hnat
    by_cases hn : n' = 0
    ·subst hn
     go_wp2_with fail
     refine (rat_any _ br str (some r0) 41 41 rfl hI.out.rst).mono ?_
     rintro e w2 ⟨rfl, q, rfl⟩
     rw [HA.out]
     go_wp2_with fail
     refine (HE.out _ (some r0) ((hI.out.fr).drewN q) (hI.out.rst.drewN q) (fun r hr => hI.out.limit HL.out hr)).mono ?_
     rintro e w3 ⟨v, rfl, hty, hst, hf, htx⟩
     obtain ⟨xs, hown⟩ := hI.out.own hlt (((Fr.refl _ _).drewN q).trans hf)
     have hw3 : w.heap.size ≤ w3.heap.size := (hI.out.fr.trans (((Fr.refl _ _).drewN q).trans hf)).size
     obtain ⟨z0_0n, z0_1n, z0_2A, z0_2k, z0_2c, z1A, z1k, z1c, rfl⟩ := ty_store hty
     rw [val_store]
     have HTY := hid hty
     have HST := hid hst
     have HFF := hid hf
     have HTX := hid htx
     clear hty hst hf htx
     rw [hsz] at hown
     go_wp2_with (at_builtin; refine wpList_pushS w3 rfl _ _ 27 94 rfl Tryz.underlying27 4 64 info_el_store (by decide) (by decide) w.heap.size _ 0 xs [.int .i64 z0_0n, .int .i64 z0_1n, .slice z0_2A z0_2k z0_2c, .slice z1A z1k z1c] (by rfl) hown (by rfl) rfl HTY.out.one (by omega) hw3 ?_)
     intro g' cap w4 hown' hg hgb hglt
     rw [← hsz] at hown hown'
     have HI2 := hid (EInv.next one_store hlt hI.out HN.out ((Fr.refl _ _).drewN q) rfl HTY.out HST.out HFF.out HTX.out hown hown' hg hgb hglt)
     have a0 := HI2.out.small
     clear hown' hg hgb hglt hown
     go_wp2
     go_roundw
     case rel => exact ⟨_, _, HI2⟩
     case measure => simp [lenOf]
    ·have hkp : decide (0 < n') = true := by simp; omega
     have hn0 : 0 < n' := by omega
     go_wp2_with fail
     refine (rat_any _ br str (some r0) 41 41 rfl hI.out.rst).mono ?_
     rintro e w2 ⟨rfl, q, rfl⟩
     rw [HA.out]
     go_wp2_with fail
     refine (rsign_any _ br str (some r0) 32 32 rfl (hI.out.rst.drewN q)).mono ?_
     rintro e w2 ⟨rfl, hr2, hf2⟩
     have HR2 := hid hr2
     have HF2 := hid (((Fr.refl _ _).drewN q).trans hf2)
     clear hr2 hf2
     go_wp2_with fail
     refine (HE.out _ (want 32 (some r0)) ((hI.out.fr).trans HF2.out) HR2.out (fun r hr => hI.out.limit HL.out (by rw [if_neg hn]; exact hr))).mono ?_
     rintro e w3 ⟨v, rfl, hty, hst, hf, htx⟩
     obtain ⟨xs, hown⟩ := hI.out.own hlt (HF2.out.trans hf)
     have hw3 : w.heap.size ≤ w3.heap.size := (hI.out.fr.trans (HF2.out.trans hf)).size
     obtain ⟨z0_0n, z0_1n, z0_2A, z0_2k, z0_2c, z1A, z1k, z1c, rfl⟩ := ty_store hty
     rw [val_store]
     have HTY := hid hty
     have HST := hid hst
     have HFF := hid hf
     have HTX := hid htx
     clear hty hst hf htx
     rw [hsz] at hown
     go_wp2_with (at_builtin; refine wpList_pushS w3 rfl _ _ 27 94 rfl Tryz.underlying27 4 64 info_el_store (by decide) (by decide) w.heap.size _ n' xs [.int .i64 z0_0n, .int .i64 z0_1n, .slice z0_2A z0_2k z0_2c, .slice z1A z1k z1c] (by rfl) hown (by rfl) rfl HTY.out.one (by omega) hw3 ?_)
     intro g' cap w4 hown' hg hgb hglt
     rw [← hsz] at hown hown'
     have HI2 := hid (EInv.next one_store hlt hI.out HN.out HF2.out (if_neg hn) HTY.out HST.out HFF.out HTX.out hown hown' hg hgb hglt)
     have a0 := HI2.out.small
     clear hown' hg hgb hglt hown
     go_wp2
     go_roundw
     case rel => exact ⟨_, _, HI2⟩
     case measure => simp [lenOf]; omega
theorem info_el_index : (Tryz.prog.info? 125).map (fun i => (i.size, i.bytes, i.zero.map fun z => z.cells.size)) = some (2, 32, some 2) := by kernel_rfl
set_option maxHeartbeats 2000000 in
set_option maxRecDepth 100000 in
theorem el_index (n : Nat) (L : Nat) (g : FuncId) (fi ca : Array Value) (w : World) (br : Nat) (str : ByteArray) (o : Option (List UInt8)) (h : Rst w br str o) (hL : ∀ r, o = some r → r.length ≤ L) (hel : ElR g (fi ++ ca) (indexS n) L br str w) :
 Calls Tryz.prog 359 #[.pointer (some ⟨br, 0, none⟩), .func (.func g) fi ca] w (RPost (.list (indexS n)) br str o w) := by
 obtain ⟨he, hel⟩ := hel
 unfold Enters at he
 have hlt := h.lt
 have hsz : Shape.sz (indexS n) = 2 := sz_index
 have HR := hid h
 have HL := hid hL
 have HE := hid hel
 clear h hL hel
 go_enter Tryz.func359, Tryz.ntmps359
 go_wp2_with fail
 refine (rsign_any _ br str o 40 40 rfl HR.out).mono ?_
 rintro e w1 ⟨rfl, hr1, hf1⟩
 have I0 := EInv.start (s := (indexS n)) (e := 125) HR.out hr1 hf1
 have HI0 := hid I0
 clear I0 hr1 hf1
 go_wp2
 go_loopw [5] (fun lv wr => ∃ (n' : Nat) (o' : Option (List UInt8)), Hid (EInv (indexS n) 125 br str o w lv n' o' wr)) (fun lv _ => 262146 - lenOf lv)
 case atStart => exact ⟨0, _, HI0⟩
 case round =>
  obtain ⟨n', o', hI⟩ := hrel
  clear HI0
  obtain ⟨A, c, rfl, hnc, hcm⟩ := hI.out.form
  have hsm := hI.out.small
  have c2 := hI.out.rst.cell
  unfold maxLen at hcm
  cases o' with
  | none =>
   go_wp2_with fail
   refine (rsign_any _ br str none 41 41 rfl hI.out.rst).mono ?_
   rintro e w2 ⟨rfl, hr2, hf2⟩
   go_wp2
   go_ret
   exact EInv.last hlt hI.out (.inl rfl) hr2 hf2
  | some r0 =>
   cases ha : isAt 41 (some r0) with
   | true =>
    have HA := hid ha
    clear ha
    go_wp2_with fail
    refine (rat_any _ br str (some r0) 41 41 rfl hI.out.rst).mono ?_
    rintro e w2 ⟨rfl, q, rfl⟩
    rw [HA.out]
    go_wp2_with fail
    refine (rsign_any _ br str (some r0) 41 41 rfl (hI.out.rst.drewN q)).mono ?_
    rintro e w2 ⟨rfl, hr2, hf2⟩
    go_wp2
    go_ret
    exact EInv.last hlt hI.out ((EInv.at hI.out).1 HA.out) hr2 (((Fr.refl _ _).drewN q).trans hf2)
   | false =>
    have HA := hid ha
    clear ha
    have hnat := (EInv.at hI.out).2 HA.out r0 rfl
    have HN := hid hnat
    clear hnat
    by_cases hn : n' = 0
    ·subst hn
     go_wp2_with fail
     refine (rat_any _ br str (some r0) 41 41 rfl hI.out.rst).mono ?_
     rintro e w2 ⟨rfl, q, rfl⟩
     rw [HA.out]
     go_wp2_with fail
     refine (HE.out _ (some r0) ((hI.out.fr).drewN q) (hI.out.rst.drewN q) (fun r hr => hI.out.limit HL.out hr)).mono ?_
     rintro e w3 ⟨v, rfl, hty, hst, hf, htx⟩
     obtain ⟨xs, hown⟩ := hI.out.own hlt (((Fr.refl _ _).drewN q).trans hf)
     have hw3 : w.heap.size ≤ w3.heap.size := (hI.out.fr.trans (((Fr.refl _ _).drewN q).trans hf)).size
     obtain ⟨z0n, z1A, z1k, z1c, rfl⟩ := ty_index hty
     rw [val_index]
     have HTY := hid hty
     have HST := hid hst
     have HFF := hid hf
     have HTX := hid htx
     clear hty hst hf htx
     rw [hsz] at hown
     go_wp2_with (at_builtin; refine wpList_pushS w3 rfl _ _ 123 125 rfl Tryz.underlying123 2 32 info_el_index (by decide) (by decide) w.heap.size _ 0 xs [.int .i64 z0n, .slice z1A z1k z1c] (by rfl) hown (by rfl) rfl HTY.out.one (by omega) hw3 ?_)
     intro g' cap w4 hown' hg hgb hglt
     rw [← hsz] at hown hown'
     have HI2 := hid (EInv.next one_index hlt hI.out HN.out ((Fr.refl _ _).drewN q) rfl HTY.out HST.out HFF.out HTX.out hown hown' hg hgb hglt)
     have a0 := HI2.out.small
     clear hown' hg hgb hglt hown
     go_wp2
     go_roundw
     case rel => exact ⟨_, _, HI2⟩
     case measure => simp [lenOf]
    ·have hkp : decide (0 < n') = true := by simp; omega
     have hn0 : 0 < n' := by omega
     go_wp2_with fail
     refine (rat_any _ br str (some r0) 41 41 rfl hI.out.rst).mono ?_
     rintro e w2 ⟨rfl, q, rfl⟩
     rw [HA.out]
     go_wp2_with fail
     refine (rsign_any _ br str (some r0) 32 32 rfl (hI.out.rst.drewN q)).mono ?_
     rintro e w2 ⟨rfl, hr2, hf2⟩
     have HR2 := hid hr2
     have HF2 := hid (((Fr.refl _ _).drewN q).trans hf2)
     clear hr2 hf2
     go_wp2_with fail
     refine (HE.out _ (want 32 (some r0)) ((hI.out.fr).trans HF2.out) HR2.out (fun r hr => hI.out.limit HL.out (by rw [if_neg hn]; exact hr))).mono ?_
     rintro e w3 ⟨v, rfl, hty, hst, hf, htx⟩
     obtain ⟨xs, hown⟩ := hI.out.own hlt (HF2.out.trans hf)
     have hw3 : w.heap.size ≤ w3.heap.size := (hI.out.fr.trans (HF2.out.trans hf)).size
     obtain ⟨z0n, z1A, z1k, z1c, rfl⟩ := ty_index hty
     rw [val_index]
     have HTY := hid hty
     have HST := hid hst
     have HFF := hid hf
     have HTX := hid htx
     clear hty hst hf htx
     rw [hsz] at hown
     go_wp2_with (at_builtin; refine wpList_pushS w3 rfl _ _ 123 125 rfl Tryz.underlying123 2 32 info_el_index (by decide) (by decide) w.heap.size _ n' xs [.int .i64 z0n, .slice z1A z1k z1c] (by rfl) hown (by rfl) rfl HTY.out.one (by omega) hw3 ?_)
     intro g' cap w4 hown' hg hgb hglt
     rw [← hsz] at hown hown'
     have HI2 := hid (EInv.next one_index hlt hI.out HN.out HF2.out (if_neg hn) HTY.out HST.out HFF.out HTX.out hown hown' hg hgb hglt)
     have a0 := HI2.out.small
     clear hown' hg hgb hglt hown
     go_wp2
     go_roundw
     case rel => exact ⟨_, _, HI2⟩
     case measure => simp [lenOf]; omega
theorem info_el_factor : (Tryz.prog.info? 127).map (fun i => (i.size, i.bytes, i.zero.map fun z => z.cells.size)) = some (3, 40, some 3) := by kernel_rfl
set_option maxHeartbeats 2000000 in
set_option maxRecDepth 100000 in
theorem el_factor (n : Nat) (L : Nat) (g : FuncId) (fi ca : Array Value) (w : World) (br : Nat) (str : ByteArray) (o : Option (List UInt8)) (h : Rst w br str o) (hL : ∀ r, o = some r → r.length ≤ L) (hel : ElR g (fi ++ ca) (factorS n) L br str w) :
 Calls Tryz.prog 298 #[.pointer (some ⟨br, 0, none⟩), .func (.func g) fi ca] w (RPost (.list (factorS n)) br str o w) := by
 obtain ⟨he, hel⟩ := hel
 unfold Enters at he
 have hlt := h.lt
 have hsz : Shape.sz (factorS n) = 3 := sz_factor
 have HR := hid h
 have HL := hid hL
 have HE := hid hel
 clear h hL hel
 go_enter Tryz.func298, Tryz.ntmps298
 go_wp2_with fail
 refine (rsign_any _ br str o 40 40 rfl HR.out).mono ?_
 rintro e w1 ⟨rfl, hr1, hf1⟩
 have I0 := EInv.start (s := (factorS n)) (e := 127) HR.out hr1 hf1
 have HI0 := hid I0
 clear I0 hr1 hf1
 go_wp2
 go_loopw [5] (fun lv wr => ∃ (n' : Nat) (o' : Option (List UInt8)), Hid (EInv (factorS n) 127 br str o w lv n' o' wr)) (fun lv _ => 262146 - lenOf lv)
 case atStart => exact ⟨0, _, HI0⟩
 case round =>
  obtain ⟨n', o', hI⟩ := hrel
  clear HI0
  obtain ⟨A, c, rfl, hnc, hcm⟩ := hI.out.form
  have hsm := hI.out.small
  have c2 := hI.out.rst.cell
  unfold maxLen at hcm
  cases o' with
  | none =>
   go_wp2_with fail
   refine (rsign_any _ br str none 41 41 rfl hI.out.rst).mono ?_
   rintro e w2 ⟨rfl, hr2, hf2⟩
   go_wp2
   go_ret
   exact EInv.last hlt hI.out (.inl rfl) hr2 hf2
  | some r0 =>
   cases ha : isAt 41 (some r0) with
   | true =>
    have HA := hid ha
    clear ha
    go_wp2_with fail
    refine (rat_any _ br str (some r0) 41 41 rfl hI.out.rst).mono ?_
    rintro e w2 ⟨rfl, q, rfl⟩
    rw [HA.out]
    go_wp2_with fail
    refine (rsign_any _ br str (some r0) 41 41 rfl (hI.out.rst.drewN q)).mono ?_
    rintro e w2 ⟨rfl, hr2, hf2⟩
    go_wp2
    go_ret
    exact EInv.last hlt hI.out ((EInv.at hI.out).1 HA.out) hr2 (((Fr.refl _ _).drewN q).trans hf2)
   | false =>
    have HA := hid ha
    clear ha
    have hnat := (EInv.at hI.out).2 HA.out r0 rfl
    have HN := hid hnat
    clear hnat
    by_cases hn : n' = 0
    ·subst hn
     go_wp2_with fail
     refine (rat_any _ br str (some r0) 41 41 rfl hI.out.rst).mono ?_
     rintro e w2 ⟨rfl, q, rfl⟩
     rw [HA.out]
     go_wp2_with fail
     refine (HE.out _ (some r0) ((hI.out.fr).drewN q) (hI.out.rst.drewN q) (fun r hr => hI.out.limit HL.out hr)).mono ?_
     rintro e w3 ⟨v, rfl, hty, hst, hf, htx⟩
     obtain ⟨xs, hown⟩ := hI.out.own hlt (((Fr.refl _ _).drewN q).trans hf)
     have hw3 : w.heap.size ≤ w3.heap.size := (hI.out.fr.trans (((Fr.refl _ _).drewN q).trans hf)).size
     obtain ⟨z0n, z1_0n, z1_1A, z1_1k, z1_1c, rfl⟩ := ty_factor hty
     rw [val_factor]
     have HTY := hid hty
     have HST := hid hst
     have HFF := hid hf
     have HTX := hid htx
     clear hty hst hf htx
     rw [hsz] at hown
     go_wp2_with (at_builtin; refine wpList_pushS w3 rfl _ _ 61 127 rfl Tryz.underlying61 3 40 info_el_factor (by decide) (by decide) w.heap.size _ 0 xs [.int .i64 z0n, .int .i64 z1_0n, .slice z1_1A z1_1k z1_1c] (by rfl) hown (by rfl) rfl HTY.out.one (by omega) hw3 ?_)
     intro g' cap w4 hown' hg hgb hglt
     rw [← hsz] at hown hown'
     have HI2 := hid (EInv.next one_factor hlt hI.out HN.out ((Fr.refl _ _).drewN q) rfl HTY.out HST.out HFF.out HTX.out hown hown' hg hgb hglt)
     have a0 := HI2.out.small
     clear hown' hg hgb hglt hown
     go_wp2
     go_roundw
     case rel => exact ⟨_, _, HI2⟩
     case measure => simp [lenOf]
    ·have hkp : decide (0 < n') = true := by simp; omega
     have hn0 : 0 < n' := by omega
     go_wp2_with fail
     refine (rat_any _ br str (some r0) 41 41 rfl hI.out.rst).mono ?_
     rintro e w2 ⟨rfl, q, rfl⟩
     rw [HA.out]
     go_wp2_with fail
     refine (rsign_any _ br str (some r0) 32 32 rfl (hI.out.rst.drewN q)).mono ?_
     rintro e w2 ⟨rfl, hr2, hf2⟩
     have HR2 := hid hr2
     have HF2 := hid (((Fr.refl _ _).drewN q).trans hf2)
     clear hr2 hf2
     go_wp2_with fail
     refine (HE.out _ (want 32 (some r0)) ((hI.out.fr).trans HF2.out) HR2.out (fun r hr => hI.out.limit HL.out (by rw [if_neg hn]; exact hr))).mono ?_
     rintro e w3 ⟨v, rfl, hty, hst, hf, htx⟩
     obtain ⟨xs, hown⟩ := hI.out.own hlt (HF2.out.trans hf)
     have hw3 : w.heap.size ≤ w3.heap.size := (hI.out.fr.trans (HF2.out.trans hf)).size
     obtain ⟨z0n, z1_0n, z1_1A, z1_1k, z1_1c, rfl⟩ := ty_factor hty
     rw [val_factor]
     have HTY := hid hty
     have HST := hid hst
     have HFF := hid hf
     have HTX := hid htx
     clear hty hst hf htx
     rw [hsz] at hown
     go_wp2_with (at_builtin; refine wpList_pushS w3 rfl _ _ 61 127 rfl Tryz.underlying61 3 40 info_el_factor (by decide) (by decide) w.heap.size _ n' xs [.int .i64 z0n, .int .i64 z1_0n, .slice z1_1A z1_1k z1_1c] (by rfl) hown (by rfl) rfl HTY.out.one (by omega) hw3 ?_)
     intro g' cap w4 hown' hg hgb hglt
     rw [← hsz] at hown hown'
     have HI2 := hid (EInv.next one_factor hlt hI.out HN.out HF2.out (if_neg hn) HTY.out HST.out HFF.out HTX.out hown hown' hg hgb hglt)
     have a0 := HI2.out.small
     clear hown' hg hgb hglt hown
     go_wp2
     go_roundw
     case rel => exact ⟨_, _, HI2⟩
     case measure => simp [lenOf]; omega
end Go.Proofs.YtpbdkkoanedimaaGreatDoor
