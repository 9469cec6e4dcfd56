/-
 The reader: lists (printed by gen_codec.py).
-/
import Derived.Test.YtpbdkkoanedimaaGreatDoorHCRa
namespace Go.Proofs.YtpbdkkoanedimaaGreatDoor
open Go.Lib (hid)
open Go.RowKit AC
set_option linter.unusedVariables false
set_option linter.unusedSimpArgs false
theorem info_el_target : (Tryz.prog.info? 71).map (fun i => (i.size, i.bytes, i.zero.map fun z => z.cells.size)) = some (3, 56, some 3) := by kernel_rfl
set_option maxHeartbeats 2000000 in
set_option maxRecDepth 100000 in
theorem el_target (n : Nat) (L : Nat) (g : FuncId) (fi ca : Array Value) (w : World) (br : Nat) (str : ByteArray) (o : Option (List UInt8)) (h : Rst w br str o) (hL : ∀ r, o = some r → r.length ≤ L) (hel : ElR g (fi ++ ca) (targetS n) L br str w) :
 Calls Tryz.prog 168 #[.pointer (some ⟨br, 0, none⟩), .func (.func g) fi ca] w (RPost (.list (targetS n)) br str o w) := by
 obtain ⟨he, hel⟩ := hel
 unfold Enters at he
 have hlt := h.lt
 have hsz : Shape.sz (targetS n) = 3 := sz_target
 have HR := hid h
 have HL := hid hL
 have HE := hid hel
 clear h hL hel
 go_enter Tryz.func168, Tryz.ntmps168
 go_wp2_with fail
 refine (rsign_any _ br str o 40 40 rfl HR.out).mono ?_
 rintro e w1 ⟨rfl, hr1, hf1⟩
 have I0 := EInv.start (s := (targetS n)) (e := 71) HR.out hr1 hf1
 have HI0 := hid I0
 clear I0 hr1 hf1
 go_wp2
 go_loopw [5] (fun lv wr => ∃ (n' : Nat) (o' : Option (List UInt8)), Hid (EInv (targetS n) 71 br str o w lv n' o' wr)) (fun lv _ => 262146 - lenOf lv)
 case atStart => exact ⟨0, _, HI0⟩
 case round =>
  obtain ⟨n', o', hI⟩ := hrel
  clear HI0
  obtain ⟨A, c, rfl, hnc, hcm⟩ := hI.out.form
  have hsm := hI.out.small
  have c2 := hI.out.rst.cell
  unfold maxLen at hcm
  cases o' with
  | none =>
   go_wp2_with fail
   refine (rsign_any _ br str none 41 41 rfl hI.out.rst).mono ?_
   rintro e w2 ⟨rfl, hr2, hf2⟩
   go_wp2
   go_ret
   exact EInv.last hlt hI.out (.inl rfl) hr2 hf2
  | some r0 =>
   cases ha : isAt 41 (some r0) with
   | true =>
    have HA := hid ha
    clear ha
    go_wp2_with fail
    refine (rat_any _ br str (some r0) 41 41 rfl hI.out.rst).mono ?_
    rintro e w2 ⟨rfl, q, rfl⟩
    rw [HA.out]
    go_wp2_with fail
    refine (rsign_any _ br str (some r0) 41 41 rfl (hI.out.rst.drewN q)).mono ?_
    rintro e w2 ⟨rfl, hr2, hf2⟩
    go_wp2
    go_ret
    exact EInv.last hlt hI.out ((EInv.at hI.out).1 HA.out) hr2 (((Fr.refl _ _).drewN q).trans hf2)
   | false =>
    have HA := hid ha
    clear ha
    have hnat := (EInv.at hI.out).2 HA.out r0 rfl
    have HN := hid hnat
    clear hnat
    by_cases hn : n' = 0
    ·subst hn
     go_wp2_with fail
     refine (rat_any _ br str (some r0) 41 41 rfl hI.out.rst).mono ?_
     rintro e w2 ⟨rfl, q, rfl⟩
     rw [HA.out]
     go_wp2_with fail
     refine (HE.out _ (some r0) ((hI.out.fr).drewN q) (hI.out.rst.drewN q) (fun r hr => hI.out.limit HL.out hr)).mono ?_
     rintro e w3 ⟨v, rfl, hty, hst, hf, htx⟩
     obtain ⟨xs, hown⟩ := hI.out.own hlt (((Fr.refl _ _).drewN q).trans hf)
     have hw3 : w.heap.size ≤ w3.heap.size := (hI.out.fr.trans (((Fr.refl _ _).drewN q).trans hf)).size
     obtain ⟨z0n, z1A, z1k, z1c, z2A, z2k, z2c, rfl⟩ := ty_target hty
     rw [val_target]
     have HTY := hid hty
     have HST := hid hst
     have HFF := hid hf
     have HTX := hid htx
     clear hty hst hf htx
     rw [hsz] at hown
     go_wp2_with (at_builtin; refine wpList_pushS w3 rfl _ _ 49 71 rfl Tryz.underlying49 3 56 info_el_target (by decide) (by decide) w.heap.size _ 0 xs [.int .i64 z0n, .slice z1A z1k z1c, .slice z2A z2k z2c] (by rfl) hown (by rfl) rfl HTY.out.one (by omega) hw3 ?_)
     intro g' cap w4 hown' hg hgb hglt
     rw [← hsz] at hown hown'
     have HI2 := hid (EInv.next one_target hlt hI.out HN.out ((Fr.refl _ _).drewN q) rfl HTY.out HST.out HFF.out HTX.out hown hown' hg hgb hglt)
     have a0 := HI2.out.small
     clear hown' hg hgb hglt hown
     go_wp2
     go_roundw
     case rel => exact ⟨_, _, HI2⟩
     case measure => simp [lenOf]
    ·have hkp : decide (0 < n') = true := by simp; omega
     have hn0 : 0 < n' := by omega
     go_wp2_with fail
     refine (rat_any _ br str (some r0) 41 41 rfl hI.out.rst).mono ?_
     rintro e w2 ⟨rfl, q, rfl⟩
     rw [HA.out]
     go_wp2_with fail
     refine (rsign_any _ br str (some r0) 32 32 rfl (hI.out.rst.drewN q)).mono ?_
     rintro e w2 ⟨rfl, hr2, hf2⟩
     have HR2 := hid hr2
     have HF2 := hid (((Fr.refl _ _).drewN q).trans hf2)
     clear hr2 hf2
     go_wp2_with fail
     refine (HE.out _ (want 32 (some r0)) ((hI.out.fr).trans HF2.out) HR2.out (fun r hr => hI.out.limit HL.out (by rw [if_neg hn]; exact hr))).mono ?_
     rintro e w3 ⟨v, rfl, hty, hst, hf, htx⟩
     obtain ⟨xs, hown⟩ := hI.out.own hlt (HF2.out.trans hf)
     have hw3 : w.heap.size ≤ w3.heap.size := (hI.out.fr.trans (HF2.out.trans hf)).size
     obtain ⟨z0n, z1A, z1k, z1c, z2A, z2k, z2c, rfl⟩ := ty_target hty
     rw [val_target]
     have HTY := hid hty
     have HST := hid hst
     have HFF := hid hf
     have HTX := hid htx
     clear hty hst hf htx
     rw [hsz] at hown
     go_wp2_with (at_builtin; refine wpList_pushS w3 rfl _ _ 49 71 rfl Tryz.underlying49 3 56 info_el_target (by decide) (by decide) w.heap.size _ n' xs [.int .i64 z0n, .slice z1A z1k z1c, .slice z2A z2k z2c] (by rfl) hown (by rfl) rfl HTY.out.one (by omega) hw3 ?_)
     intro g' cap w4 hown' hg hgb hglt
     rw [← hsz] at hown hown'
     have HI2 := hid (EInv.next one_target hlt hI.out HN.out HF2.out (if_neg hn) HTY.out HST.out HFF.out HTX.out hown hown' hg hgb hglt)
     have a0 := HI2.out.small
     clear hown' hg hgb hglt hown
     go_wp2
     go_roundw
     case rel => exact ⟨_, _, HI2⟩
     case measure => simp [lenOf]; omega
theorem info_el_axiomUse : (Tryz.prog.info? 136).map (fun i => (i.size, i.bytes, i.zero.map fun z => z.cells.size)) = some (13, 232, some 13) := by kernel_rfl
set_option maxHeartbeats 2000000 in
set_option maxRecDepth 100000 in
theorem el_axiomUse (n : Nat) (L : Nat) (g : FuncId) (fi ca : Array Value) (w : World) (br : Nat) (str : ByteArray) (o : Option (List UInt8)) (h : Rst w br str o) (hL : ∀ r, o = some r → r.length ≤ L) (hel : ElR g (fi ++ ca) (axuS n) L br str w) :
 Calls Tryz.prog 180 #[.pointer (some ⟨br, 0, none⟩), .func (.func g) fi ca] w (RPost (.list (axuS n)) br str o w) := by
 obtain ⟨he, hel⟩ := hel
 unfold Enters at he
 have hlt := h.lt
 have hsz : Shape.sz (axuS n) = 13 := sz_axiomUse
 have HR := hid h
 have HL := hid hL
 have HE := hid hel
 clear h hL hel
 go_enter Tryz.func180, Tryz.ntmps180
 go_wp2_with fail
 refine (rsign_any _ br str o 40 40 rfl HR.out).mono ?_
 rintro e w1 ⟨rfl, hr1, hf1⟩
 have I0 := EInv.start (s := (axuS n)) (e := 136) HR.out hr1 hf1
 have HI0 := hid I0
 clear I0 hr1 hf1
 go_wp2
 go_loopw [5] (fun lv wr => ∃ (n' : Nat) (o' : Option (List UInt8)), Hid (EInv (axuS n) 136 br str o w lv n' o' wr)) (fun lv _ => 262146 - lenOf lv)
 case atStart => exact ⟨0, _, HI0⟩
 case round =>
  obtain ⟨n', o', hI⟩ := hrel
  clear HI0
  obtain ⟨A, c, rfl, hnc, hcm⟩ := hI.out.form
  have hsm := hI.out.small
  have c2 := hI.out.rst.cell
  unfold maxLen at hcm
  cases o' with
  | none =>
   go_wp2_with fail
   refine (rsign_any _ br str none 41 41 rfl hI.out.rst).mono ?_
   rintro e w2 ⟨rfl, hr2, hf2⟩
   go_wp2
   go_ret
   exact EInv.last hlt hI.out (.inl rfl) hr2 hf2
  | some r0 =>
   cases ha : isAt 41 (some r0) with
   | true =>
    have HA := hid ha
    clear ha
    go_wp2_with fail
    refine (rat_any _ br str (some r0) 41 41 rfl hI.out.rst).mono ?_
    rintro e w2 ⟨rfl, q, rfl⟩
    rw [HA.out]
    go_wp2_with fail
    refine (rsign_any _ br str (some r0) 41 41 rfl (hI.out.rst.drewN q)).mono ?_
    rintro e w2 ⟨rfl, hr2, hf2⟩
    go_wp2
    go_ret
    exact EInv.last hlt hI.out ((EInv.at hI.out).1 HA.out) hr2 (((Fr.refl _ _).drewN q).trans hf2)
   | false =>
    have HA := hid ha
    clear ha
    have hnat := (EInv.at hI.out).2 HA.out r0 rfl
    have HN := hid hnat
    clear hnat
    by_cases hn : n' = 0
    ·subst hn
     go_wp2_with fail
     refine (rat_any _ br str (some r0) 41 41 rfl hI.out.rst).mono ?_
     rintro e w2 ⟨rfl, q, rfl⟩
     rw [HA.out]
     go_wp2_with fail
     refine (HE.out _ (some r0) ((hI.out.fr).drewN q) (hI.out.rst.drewN q) (fun r hr => hI.out.limit HL.out hr)).mono ?_
     rintro e w3 ⟨v, rfl, hty, hst, hf, htx⟩
     obtain ⟨xs, hown⟩ := hI.out.own hlt (((Fr.refl _ _).drewN q).trans hf)
     have hw3 : w.heap.size ≤ w3.heap.size := (hI.out.fr.trans (((Fr.refl _ _).drewN q).trans hf)).size
     obtain ⟨z0_0n, z0_1_0n, z0_1_1A, z0_1_1k, z0_1_1c, z0_2_0n, z0_2_1A, z0_2_1k, z0_2_1c, z0_3n, z1b, z1A, z1k, z1c, z1D, z1l, z1d, z2_0A, z2_0k, z2_0c, z2_1A, z2_1k, z2_1c, z3A, z3k, z3c, z4A, z4k, z4c, rfl⟩ := ty_axiomUse hty
     rw [val_axiomUse]
     have HTY := hid hty
     have HST := hid hst
     have HFF := hid hf
     have HTX := hid htx
     clear hty hst hf htx
     rw [hsz] at hown
     go_wp2_with (at_builtin; refine wpList_pushS w3 rfl _ _ 74 136 rfl Tryz.underlying74 13 232 info_el_axiomUse (by decide) (by decide) w.heap.size _ 0 xs [.int .i64 z0_0n, .int .i64 z0_1_0n, .slice z0_1_1A z0_1_1k z0_1_1c, .int .i64 z0_2_0n, .slice z0_2_1A z0_2_1k z0_2_1c, .int .i64 z0_3n, .bool z1b, .slice z1A z1k z1c, .slice z1D z1l z1d, .slice z2_0A z2_0k z2_0c, .slice z2_1A z2_1k z2_1c, .slice z3A z3k z3c, .slice z4A z4k z4c] (by rfl) hown (by rfl) rfl HTY.out.one (by omega) hw3 ?_)
     intro g' cap w4 hown' hg hgb hglt
     rw [← hsz] at hown hown'
     have HI2 := hid (EInv.next one_axiomUse hlt hI.out HN.out ((Fr.refl _ _).drewN q) rfl HTY.out HST.out HFF.out HTX.out hown hown' hg hgb hglt)
     have a0 := HI2.out.small
     clear hown' hg hgb hglt hown
     go_wp2
     go_roundw
     case rel => exact ⟨_, _, HI2⟩
     case measure => simp [lenOf]
    ·have hkp : decide (0 < n') = true := by simp; omega
     have hn0 : 0 < n' := by omega
     go_wp2_with fail
     refine (rat_any _ br str (some r0) 41 41 rfl hI.out.rst).mono ?_
     rintro e w2 ⟨rfl, q, rfl⟩
     rw [HA.out]
     go_wp2_with fail
     refine (rsign_any _ br str (some r0) 32 32 rfl (hI.out.rst.drewN q)).mono ?_
     rintro e w2 ⟨rfl, hr2, hf2⟩
     have HR2 := hid hr2
     have HF2 := hid (((Fr.refl _ _).drewN q).trans hf2)
     clear hr2 hf2
     go_wp2_with fail
     refine (HE.out _ (want 32 (some r0)) ((hI.out.fr).trans HF2.out) HR2.out (fun r hr => hI.out.limit HL.out (by rw [if_neg hn]; exact hr))).mono ?_
     rintro e w3 ⟨v, rfl, hty, hst, hf, htx⟩
     obtain ⟨xs, hown⟩ := hI.out.own hlt (HF2.out.trans hf)
     have hw3 : w.heap.size ≤ w3.heap.size := (hI.out.fr.trans (HF2.out.trans hf)).size
     obtain ⟨z0_0n, z0_1_0n, z0_1_1A, z0_1_1k, z0_1_1c, z0_2_0n, z0_2_1A, z0_2_1k, z0_2_1c, z0_3n, z1b, z1A, z1k, z1c, z1D, z1l, z1d, z2_0A, z2_0k, z2_0c, z2_1A, z2_1k, z2_1c, z3A, z3k, z3c, z4A, z4k, z4c, rfl⟩ := ty_axiomUse hty
     rw [val_axiomUse]
     have HTY := hid hty
     have HST := hid hst
     have HFF := hid hf
     have HTX := hid htx
     clear hty hst hf htx
     rw [hsz] at hown
     go_wp2_with (at_builtin; refine wpList_pushS w3 rfl _ _ 74 136 rfl Tryz.underlying74 13 232 info_el_axiomUse (by decide) (by decide) w.heap.size _ n' xs [.int .i64 z0_0n, .int .i64 z0_1_0n, .slice z0_1_1A z0_1_1k z0_1_1c, .int .i64 z0_2_0n, .slice z0_2_1A z0_2_1k z0_2_1c, .int .i64 z0_3n, .bool z1b, .slice z1A z1k z1c, .slice z1D z1l z1d, .slice z2_0A z2_0k z2_0c, .slice z2_1A z2_1k z2_1c, .slice z3A z3k z3c, .slice z4A z4k z4c] (by rfl) hown (by rfl) rfl HTY.out.one (by omega) hw3 ?_)
     intro g' cap w4 hown' hg hgb hglt
     rw [← hsz] at hown hown'
     have HI2 := hid (EInv.next one_axiomUse hlt hI.out HN.out HF2.out (if_neg hn) HTY.out HST.out HFF.out HTX.out hown hown' hg hgb hglt)
     have a0 := HI2.out.small
     clear hown' hg hgb hglt hown
     go_wp2
     go_roundw
     case rel => exact ⟨_, _, HI2⟩
     case measure => simp [lenOf]; omega
theorem info_el_node : (Tryz.prog.info? 55).map (fun i => (i.size, i.bytes, i.zero.map fun z => z.cells.size)) = some (11, 216, some 11) := by kernel_rfl
set_option maxHeartbeats 2000000 in
set_option maxRecDepth 100000 in
theorem el_node (n : Nat) (L : Nat) (g : FuncId) (fi ca : Array Value) (w : World) (br : Nat) (str : ByteArray) (o : Option (List UInt8)) (h : Rst w br str o) (hL : ∀ r, o = some r → r.length ≤ L) (hel : ElR g (fi ++ ca) (nodeS n) L br str w) :
 Calls Tryz.prog 77 #[.pointer (some ⟨br, 0, none⟩), .func (.func g) fi ca] w (RPost (.list (nodeS n)) br str o w) := by
 obtain ⟨he, hel⟩ := hel
 unfold Enters at he
 have hlt := h.lt
 have hsz : Shape.sz (nodeS n) = 11 := sz_node
 have HR := hid h
 have HL := hid hL
 have HE := hid hel
 clear h hL hel
 go_enter Tryz.func77, Tryz.ntmps77
 go_wp2_with fail
 refine (rsign_any _ br str o 40 40 rfl HR.out).mono ?_
 rintro e w1 ⟨rfl, hr1, hf1⟩
 have I0 := EInv.start (s := (nodeS n)) (e := 55) HR.out hr1 hf1
 have HI0 := hid I0
 clear I0 hr1 hf1
 go_wp2
 go_loopw [5] (fun lv wr => ∃ (n' : Nat) (o' : Option (List UInt8)), Hid (EInv (nodeS n) 55 br str o w lv n' o' wr)) (fun lv _ => 262146 - lenOf lv)
 case atStart => exact ⟨0, _, HI0⟩
 case round =>
  obtain ⟨n', o', hI⟩ := hrel
  clear HI0
  obtain ⟨A, c, rfl, hnc, hcm⟩ := hI.out.form
  have hsm := hI.out.small
  have c2 := hI.out.rst.cell
  unfold maxLen at hcm
  cases o' with
  | none =>
   go_wp2_with fail
   refine (rsign_any _ br str none 41 41 rfl hI.out.rst).mono ?_
   rintro e w2 ⟨rfl, hr2, hf2⟩
   go_wp2
   go_ret
   exact EInv.last hlt hI.out (.inl rfl) hr2 hf2
  | some r0 =>
   cases ha : isAt 41 (some r0) with
   | true =>
    have HA := hid ha
    clear ha
    go_wp2_with fail
    refine (rat_any _ br str (some r0) 41 41 rfl hI.out.rst).mono ?_
    rintro e w2 ⟨rfl, q, rfl⟩
    rw [HA.out]
    go_wp2_with fail
    refine (rsign_any _ br str (some r0) 41 41 rfl (hI.out.rst.drewN q)).mono ?_
    rintro e w2 ⟨rfl, hr2, hf2⟩
    go_wp2
    go_ret
    exact EInv.last hlt hI.out ((EInv.at hI.out).1 HA.out) hr2 (((Fr.refl _ _).drewN q).trans hf2)
   | false =>
    have HA := hid ha
    clear ha
    have hnat := (EInv.at hI.out).2 HA.out r0 rfl
    have HN := hid hnat
    clear hnat
    by_cases hn : n' = 0
    ·subst hn
     go_wp2_with fail
     refine (rat_any _ br str (some r0) 41 41 rfl hI.out.rst).mono ?_
     rintro e w2 ⟨rfl, q, rfl⟩
     rw [HA.out]
     go_wp2_with fail
     refine (HE.out _ (some r0) ((hI.out.fr).drewN q) (hI.out.rst.drewN q) (fun r hr => hI.out.limit HL.out hr)).mono ?_
     rintro e w3 ⟨v, rfl, hty, hst, hf, htx⟩
     obtain ⟨xs, hown⟩ := hI.out.own hlt (((Fr.refl _ _).drewN q).trans hf)
     have hw3 : w.heap.size ≤ w3.heap.size := (hI.out.fr.trans (((Fr.refl _ _).drewN q).trans hf)).size
     obtain ⟨z0n, z1n, z2b, z3A, z3k, z3c, z4A, z4k, z4c, z5A, z5k, z5c, z6A, z6k, z6c, z7A, z7k, z7c, z8A, z8k, z8c, z9A, z9k, z9c, a0, a1, a2, rfl⟩ := ty_node hty
     rw [val_node]
     have HTY := hid hty
     have HST := hid hst
     have HFF := hid hf
     have HTX := hid htx
     clear hty hst hf htx
     rw [hsz] at hown
     go_wp2_with (at_builtin; refine wpList_pushS w3 rfl _ _ 30 55 rfl Tryz.underlying30 11 216 info_el_node (by decide) (by decide) w.heap.size _ 0 xs [.int .i64 z0n, .int .i64 z1n, .bool z2b, .slice z3A z3k z3c, .slice z4A z4k z4c, .slice z5A z5k z5c, .slice z6A z6k z6c, .slice z7A z7k z7c, .slice z8A z8k z8c, .slice z9A z9k z9c, .slice a0 a1 a2] (by rfl) hown (by rfl) rfl HTY.out.one (by omega) hw3 ?_)
     intro g' cap w4 hown' hg hgb hglt
     rw [← hsz] at hown hown'
     have HI2 := hid (EInv.next one_node hlt hI.out HN.out ((Fr.refl _ _).drewN q) rfl HTY.out HST.out HFF.out HTX.out hown hown' hg hgb hglt)
     have a3 := HI2.out.small
     clear hown' hg hgb hglt hown
     go_wp2
     go_roundw
     case rel => exact ⟨_, _, HI2⟩
     case measure => simp [lenOf]
    ·have hkp : decide (0 < n') = true := by simp; omega
     have hn0 : 0 < n' := by omega
     go_wp2_with fail
     refine (rat_any _ br str (some r0) 41 41 rfl hI.out.rst).mono ?_
     rintro e w2 ⟨rfl, q, rfl⟩
     rw [HA.out]
     go_wp2_with fail
     refine (rsign_any _ br str (some r0) 32 32 rfl (hI.out.rst.drewN q)).mono ?_
     rintro e w2 ⟨rfl, hr2, hf2⟩
     have HR2 := hid hr2
     have HF2 := hid (((Fr.refl _ _).drewN q).trans hf2)
     clear hr2 hf2
     go_wp2_with fail
     refine (HE.out _ (want 32 (some r0)) ((hI.out.fr).trans HF2.out) HR2.out (fun r hr => hI.out.limit HL.out (by rw [if_neg hn]; exact hr))).mono ?_
     rintro e w3 ⟨v, rfl, hty, hst, hf, htx⟩
     obtain ⟨xs, hown⟩ := hI.out.own hlt (HF2.out.trans hf)
     have hw3 : w.heap.size ≤ w3.heap.size := (hI.out.fr.trans (HF2.out.trans hf)).size
     obtain ⟨z0n, z1n, z2b, z3A, z3k, z3c, z4A, z4k, z4c, z5A, z5k, z5c, z6A, z6k, z6c, z7A, z7k, z7c, z8A, z8k, z8c, z9A, z9k, z9c, a0, a1, a2, rfl⟩ := ty_node hty
     rw [val_node]
     have HTY := hid hty
     have HST := hid hst
     have HFF := hid hf
     have HTX := hid htx
     clear hty hst hf htx
     rw [hsz] at hown
     go_wp2_with (at_builtin; refine wpList_pushS w3 rfl _ _ 30 55 rfl Tryz.underlying30 11 216 info_el_node (by decide) (by decide) w.heap.size _ n' xs [.int .i64 z0n, .int .i64 z1n, .bool z2b, .slice z3A z3k z3c, .slice z4A z4k z4c, .slice z5A z5k z5c, .slice z6A z6k z6c, .slice z7A z7k z7c, .slice z8A z8k z8c, .slice z9A z9k z9c, .slice a0 a1 a2] (by rfl) hown (by rfl) rfl HTY.out.one (by omega) hw3 ?_)
     intro g' cap w4 hown' hg hgb hglt
     rw [← hsz] at hown hown'
     have HI2 := hid (EInv.next one_node hlt hI.out HN.out HF2.out (if_neg hn) HTY.out HST.out HFF.out HTX.out hown hown' hg hgb hglt)
     have a3 := HI2.out.small
     clear hown' hg hgb hglt hown
     go_wp2
     go_roundw
     case rel => exact ⟨_, _, HI2⟩
     case measure => simp [lenOf]; omega
theorem info_el_claim : (Tryz.prog.info? 99).map (fun i => (i.size, i.bytes, i.zero.map fun z => z.cells.size)) = some (2, 16, some 2) := by kernel_rfl
set_option maxHeartbeats 2000000 in
set_option maxRecDepth 100000 in
theorem el_claim (L : Nat) (g : FuncId) (fi ca : Array Value) (w : World) (br : Nat) (str : ByteArray) (o : Option (List UInt8)) (h : Rst w br str o) (hL : ∀ r, o = some r → r.length ≤ L) (hel : ElR g (fi ++ ca) claimS L br str w) :
 Calls Tryz.prog 80 #[.pointer (some ⟨br, 0, none⟩), .func (.func g) fi ca] w (RPost (.list claimS) br str o w) := by
 obtain ⟨he, hel⟩ := hel
 unfold Enters at he
 have hlt := h.lt
 have hsz : Shape.sz claimS = 2 := sz_claim
 have HR := hid h
 have HL := hid hL
 have HE := hid hel
 clear h hL hel
 go_enter Tryz.func80, Tryz.ntmps80
 go_wp2_with fail
 refine (rsign_any _ br str o 40 40 rfl HR.out).mono ?_
 rintro e w1 ⟨rfl, hr1, hf1⟩
 have I0 := EInv.start (s := claimS) (e := 99) HR.out hr1 hf1
 have HI0 := hid I0
 clear I0 hr1 hf1
 go_wp2
 go_loopw [5] (fun lv wr => ∃ (n' : Nat) (o' : Option (List UInt8)), Hid (EInv claimS 99 br str o w lv n' o' wr)) (fun lv _ => 262146 - lenOf lv)
 case atStart => exact ⟨0, _, HI0⟩
 case round =>
  obtain ⟨n', o', hI⟩ := hrel
  clear HI0
  obtain ⟨A, c, rfl, hnc, hcm⟩ := hI.out.form
  have hsm := hI.out.small
  have c2 := hI.out.rst.cell
  unfold maxLen at hcm
  cases o' with
  | none =>
   go_wp2_with fail
   refine (rsign_any _ br str none 41 41 rfl hI.out.rst).mono ?_
   rintro e w2 ⟨rfl, hr2, hf2⟩
   go_wp2
   go_ret
   exact EInv.last hlt hI.out (.inl rfl) hr2 hf2
  | some r0 =>
   cases ha : isAt 41 (some r0) with
   | true =>
    have HA := hid ha
    clear ha
    go_wp2_with fail
    refine (rat_any _ br str (some r0) 41 41 rfl hI.out.rst).mono ?_
    rintro e w2 ⟨rfl, q, rfl⟩
    rw [HA.out]
    go_wp2_with fail
    refine (rsign_any _ br str (some r0) 41 41 rfl (hI.out.rst.drewN q)).mono ?_
    rintro e w2 ⟨rfl, hr2, hf2⟩
    go_wp2
    go_ret
    exact EInv.last hlt hI.out ((EInv.at hI.out).1 HA.out) hr2 (((Fr.refl _ _).drewN q).trans hf2)
   | false =>
    have HA := hid ha
    clear ha
    have hnat := (EInv.at hI.out).2 HA.out r0 rfl
    have HN := hid hnat
    clear hnat
    by_cases hn : n' = 0
    ·subst hn
     go_wp2_with fail
     refine (rat_any _ br str (some r0) 41 41 rfl hI.out.rst).mono ?_
     rintro e w2 ⟨rfl, q, rfl⟩
     rw [HA.out]
     go_wp2_with fail
     refine (HE.out _ (some r0) ((hI.out.fr).drewN q) (hI.out.rst.drewN q) (fun r hr => hI.out.limit HL.out hr)).mono ?_
     rintro e w3 ⟨v, rfl, hty, hst, hf, htx⟩
     obtain ⟨xs, hown⟩ := hI.out.own hlt (((Fr.refl _ _).drewN q).trans hf)
     have hw3 : w.heap.size ≤ w3.heap.size := (hI.out.fr.trans (((Fr.refl _ _).drewN q).trans hf)).size
     obtain ⟨z0n, z1n, rfl⟩ := ty_claim hty
     rw [val_claim]
     have HTY := hid hty
     have HST := hid hst
     have HFF := hid hf
     have HTX := hid htx
     clear hty hst hf htx
     rw [hsz] at hown
     go_wp2_with (at_builtin; refine wpList_pushS w3 rfl _ _ 31 99 rfl Tryz.underlying31 2 16 info_el_claim (by decide) (by decide) w.heap.size _ 0 xs [.int .i64 z0n, .int .i64 z1n] (by rfl) hown (by rfl) rfl HTY.out.one (by omega) hw3 ?_)
     intro g' cap w4 hown' hg hgb hglt
     rw [← hsz] at hown hown'
     have HI2 := hid (EInv.next one_claim hlt hI.out HN.out ((Fr.refl _ _).drewN q) rfl HTY.out HST.out HFF.out HTX.out hown hown' hg hgb hglt)
     have a0 := HI2.out.small
     clear hown' hg hgb hglt hown
     go_wp2
     go_roundw
     case rel => exact ⟨_, _, HI2⟩
     case measure => simp [lenOf]
    ·have hkp : decide (0 < n') = true := by simp; omega
     have hn0 : 0 < n' := by omega
     go_wp2_with fail
     refine (rat_any _ br str (some r0) 41 41 rfl hI.out.rst).mono ?_
     rintro e w2 ⟨rfl, q, rfl⟩
     rw [HA.out]
     go_wp2_with fail
     refine (rsign_any _ br str (some r0) 32 32 rfl (hI.out.rst.drewN q)).mono ?_
     rintro e w2 ⟨rfl, hr2, hf2⟩
     have HR2 := hid hr2
     have HF2 := hid (((Fr.refl _ _).drewN q).trans hf2)
     clear hr2 hf2
     go_wp2_with fail
     refine (HE.out _ (want 32 (some r0)) ((hI.out.fr).trans HF2.out) HR2.out (fun r hr => hI.out.limit HL.out (by rw [if_neg hn]; exact hr))).mono ?_
     rintro e w3 ⟨v, rfl, hty, hst, hf, htx⟩
     obtain ⟨xs, hown⟩ := hI.out.own hlt (HF2.out.trans hf)
     have hw3 : w.heap.size ≤ w3.heap.size := (hI.out.fr.trans (HF2.out.trans hf)).size
     obtain ⟨z0n, z1n, rfl⟩ := ty_claim hty
     rw [val_claim]
     have HTY := hid hty
     have HST := hid hst
     have HFF := hid hf
     have HTX := hid htx
     clear hty hst hf htx
     rw [hsz] at hown
     go_wp2_with (at_builtin; refine wpList_pushS w3 rfl _ _ 31 99 rfl Tryz.underlying31 2 16 info_el_claim (by decide) (by decide) w.heap.size _ n' xs [.int .i64 z0n, .int .i64 z1n] (by rfl) hown (by rfl) rfl HTY.out.one (by omega) hw3 ?_)
     intro g' cap w4 hown' hg hgb hglt
     rw [← hsz] at hown hown'
     have HI2 := hid (EInv.next one_claim hlt hI.out HN.out HF2.out (if_neg hn) HTY.out HST.out HFF.out HTX.out hown hown' hg hgb hglt)
     have a0 := HI2.out.small
     clear hown' hg hgb hglt hown
     go_wp2
     go_roundw
     case rel => exact ⟨_, _, HI2⟩
     case measure => simp [lenOf]; omega
end Go.Proofs.YtpbdkkoanedimaaGreatDoor
