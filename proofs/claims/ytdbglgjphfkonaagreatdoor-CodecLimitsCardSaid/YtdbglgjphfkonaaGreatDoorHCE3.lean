/-
  The reader: lists (printed by gen_codec.py).
-/
import Derived.Test.YtdbglgjphfkonaaGreatDoorHCRa
namespace Go.Proofs.YtdbglgjphfkonaaGreatDoor
open Go.RowKit AC
set_option linter.unusedVariables false
set_option linter.unusedSimpArgs false

theorem info_el_typ : (Tryz.prog.info? 102).map (fun i => (i.size, i.bytes, i.zero.map fun z => z.cells.size)) = some (3, 40, some 3) := by kernel_rfl

set_option maxHeartbeats 2000000 in
set_option maxRecDepth 100000 in
theorem el_typ (n : Nat) (L : Nat) (g : FuncId) (fi ca : Array Value) (w : World) (br : Nat) (str : ByteArray) (o : Option (List UInt8)) (h : Rst w br str o) (hL : ∀ r, o = some r → r.length ≤ L) (hel : ElR g (fi ++ ca) (typS n) L br str w) :
    Calls Tryz.prog 200 #[.pointer (some ⟨br, 0, none⟩), .func (.func g) fi ca] w (RPost (.list (typS n)) br str o w) := by
  obtain ⟨he, hel⟩ := hel
  unfold Enters at he
  have hlt := h.lt
  have hsz : Shape.sz (typS n) = 3 := sz_typ
  have HR := Lib.hid h
  have HL := Lib.hid hL
  have HE := Lib.hid hel
  clear h hL hel
  go_enter Tryz.func200, Tryz.ntmps200
  go_wp2_with fail
  refine (rsign_any _ br str o 40 40 rfl HR.out).mono ?_
  rintro e w1 ⟨rfl, hr1, hf1⟩
  have I0 := EInv.start (s := (typS n)) (e := 102) HR.out hr1 hf1
  have HI0 := Lib.hid I0
  clear I0 hr1 hf1
  go_wp2
  go_loopw [5] (fun lv wr => ∃ (n' : Nat) (o' : Option (List UInt8)), Hid (EInv (typS n) 102 br str o w lv n' o' wr)) (fun lv _ => 262146 - lenOf lv)
  case atStart => exact ⟨0, _, HI0⟩
  case round =>
    obtain ⟨n', o', hI⟩ := hrel
    clear HI0
    obtain ⟨A, c, rfl, hnc, hcm⟩ := hI.out.form
    have hsm := hI.out.small
    have c2 := hI.out.rst.cell
    unfold maxLen at hcm
    cases o' with
    | none =>
      go_wp2_with fail
      refine (rsign_any _ br str none 41 41 rfl hI.out.rst).mono ?_
      rintro e w2 ⟨rfl, hr2, hf2⟩
      go_wp2
      go_ret
      exact EInv.last hlt hI.out (.inl rfl) hr2 hf2
    | some r0 =>
      cases ha : isAt 41 (some r0) with
      | true =>
        have HA := Lib.hid ha
        clear ha
        go_wp2_with fail
        refine (rat_any _ br str (some r0) 41 41 rfl hI.out.rst).mono ?_
        rintro e w2 ⟨rfl, q, rfl⟩
        rw [HA.out]
        go_wp2_with fail
        refine (rsign_any _ br str (some r0) 41 41 rfl (hI.out.rst.drewN q)).mono ?_
        rintro e w2 ⟨rfl, hr2, hf2⟩
        go_wp2
        go_ret
        exact EInv.last hlt hI.out ((EInv.at hI.out).1 HA.out) hr2 (((Fr.refl _ _).drewN q).trans hf2)
      | false =>
        have HA := Lib.hid ha
        clear ha
        have hnat := (EInv.at hI.out).2 HA.out r0 rfl
        have HN := Lib.hid hnat
        clear hnat
        by_cases hn : n' = 0
        · subst hn
          go_wp2_with fail
          refine (rat_any _ br str (some r0) 41 41 rfl hI.out.rst).mono ?_
          rintro e w2 ⟨rfl, q, rfl⟩
          rw [HA.out]
          go_wp2_with fail
          refine (HE.out _ (some r0) ((hI.out.fr).drewN q) (hI.out.rst.drewN q) (fun r hr => hI.out.limit HL.out hr)).mono ?_
          rintro e w3 ⟨v, rfl, hty, hst, hf, htx⟩
          obtain ⟨xs, hown⟩ := hI.out.own hlt (((Fr.refl _ _).drewN q).trans hf)
          have hw3 : w.heap.size ≤ w3.heap.size := (hI.out.fr.trans (((Fr.refl _ _).drewN q).trans hf)).size
          obtain ⟨z0n, z1n, z2A, z2k, z2c, rfl⟩ := ty_typ hty
          rw [val_typ]
          have HTY := Lib.hid hty
          have HST := Lib.hid hst
          have HFF := Lib.hid hf
          have HTX := Lib.hid htx
          clear hty hst hf htx
          rw [hsz] at hown
          go_wp2_with (at_builtin; refine wpList_pushS w3 rfl _ _ 100 102 rfl Tryz.underlying100 3 40 info_el_typ (by decide) (by decide) w.heap.size _ 0 xs [.int .i64 z0n, .int .i64 z1n, .slice z2A z2k z2c] (by rfl) hown (by rfl) rfl HTY.out.one (by omega) hw3 ?_)
          intro g' cap w4 hown' hg hgb hglt
          rw [← hsz] at hown hown'
          have HI2 := Lib.hid (EInv.next one_typ hlt hI.out HN.out ((Fr.refl _ _).drewN q) rfl HTY.out HST.out HFF.out HTX.out hown hown' hg hgb hglt)
          have hsm2 := HI2.out.small
          clear hown' hg hgb hglt hown
          go_wp2
          go_roundw
          case rel => exact ⟨_, _, HI2⟩
          case measure => simp [lenOf]
        · have hkp : decide (0 < n') = true := by simp; omega
          have hn0 : 0 < n' := by omega
          go_wp2_with fail
          refine (rat_any _ br str (some r0) 41 41 rfl hI.out.rst).mono ?_
          rintro e w2 ⟨rfl, q, rfl⟩
          rw [HA.out]
          go_wp2_with fail
          refine (rsign_any _ br str (some r0) 32 32 rfl (hI.out.rst.drewN q)).mono ?_
          rintro e w2 ⟨rfl, hr2, hf2⟩
          have HR2 := Lib.hid hr2
          have HF2 := Lib.hid (((Fr.refl _ _).drewN q).trans hf2)
          clear hr2 hf2
          go_wp2_with fail
          refine (HE.out _ (want 32 (some r0)) ((hI.out.fr).trans HF2.out) HR2.out (fun r hr => hI.out.limit HL.out (by rw [if_neg hn]; exact hr))).mono ?_
          rintro e w3 ⟨v, rfl, hty, hst, hf, htx⟩
          obtain ⟨xs, hown⟩ := hI.out.own hlt (HF2.out.trans hf)
          have hw3 : w.heap.size ≤ w3.heap.size := (hI.out.fr.trans (HF2.out.trans hf)).size
          obtain ⟨z0n, z1n, z2A, z2k, z2c, rfl⟩ := ty_typ hty
          rw [val_typ]
          have HTY := Lib.hid hty
          have HST := Lib.hid hst
          have HFF := Lib.hid hf
          have HTX := Lib.hid htx
          clear hty hst hf htx
          rw [hsz] at hown
          go_wp2_with (at_builtin; refine wpList_pushS w3 rfl _ _ 100 102 rfl Tryz.underlying100 3 40 info_el_typ (by decide) (by decide) w.heap.size _ n' xs [.int .i64 z0n, .int .i64 z1n, .slice z2A z2k z2c] (by rfl) hown (by rfl) rfl HTY.out.one (by omega) hw3 ?_)
          intro g' cap w4 hown' hg hgb hglt
          rw [← hsz] at hown hown'
          have HI2 := Lib.hid (EInv.next one_typ hlt hI.out HN.out HF2.out (if_neg hn) HTY.out HST.out HFF.out HTX.out hown hown' hg hgb hglt)
          have hsm2 := HI2.out.small
          clear hown' hg hgb hglt hown
          go_wp2
          go_roundw
          case rel => exact ⟨_, _, HI2⟩
          case measure => simp [lenOf]; omega

theorem info_el_store : (Tryz.prog.info? 104).map (fun i => (i.size, i.bytes, i.zero.map fun z => z.cells.size)) = some (4, 64, some 4) := by kernel_rfl

set_option maxHeartbeats 2000000 in
set_option maxRecDepth 100000 in
theorem el_store (n : Nat) (L : Nat) (g : FuncId) (fi ca : Array Value) (w : World) (br : Nat) (str : ByteArray) (o : Option (List UInt8)) (h : Rst w br str o) (hL : ∀ r, o = some r → r.length ≤ L) (hel : ElR g (fi ++ ca) (storeS n) L br str w) :
    Calls Tryz.prog 58 #[.pointer (some ⟨br, 0, none⟩), .func (.func g) fi ca] w (RPost (.list (storeS n)) br str o w) := by
  obtain ⟨he, hel⟩ := hel
  unfold Enters at he
  have hlt := h.lt
  have hsz : Shape.sz (storeS n) = 4 := sz_store
  have HR := Lib.hid h
  have HL := Lib.hid hL
  have HE := Lib.hid hel
  clear h hL hel
  go_enter Tryz.func58, Tryz.ntmps58
  go_wp2_with fail
  refine (rsign_any _ br str o 40 40 rfl HR.out).mono ?_
  rintro e w1 ⟨rfl, hr1, hf1⟩
  have I0 := EInv.start (s := (storeS n)) (e := 104) HR.out hr1 hf1
  have HI0 := Lib.hid I0
  clear I0 hr1 hf1
  go_wp2
  go_loopw [5] (fun lv wr => ∃ (n' : Nat) (o' : Option (List UInt8)), Hid (EInv (storeS n) 104 br str o w lv n' o' wr)) (fun lv _ => 262146 - lenOf lv)
  case atStart => exact ⟨0, _, HI0⟩
  case round =>
    obtain ⟨n', o', hI⟩ := hrel
    clear HI0
    obtain ⟨A, c, rfl, hnc, hcm⟩ := hI.out.form
    have hsm := hI.out.small
    have c2 := hI.out.rst.cell
    unfold maxLen at hcm
    cases o' with
    | none =>
      go_wp2_with fail
      refine (rsign_any _ br str none 41 41 rfl hI.out.rst).mono ?_
      rintro e w2 ⟨rfl, hr2, hf2⟩
      go_wp2
      go_ret
      exact EInv.last hlt hI.out (.inl rfl) hr2 hf2
    | some r0 =>
      cases ha : isAt 41 (some r0) with
      | true =>
        have HA := Lib.hid ha
        clear ha
        go_wp2_with fail
        refine (rat_any _ br str (some r0) 41 41 rfl hI.out.rst).mono ?_
        rintro e w2 ⟨rfl, q, rfl⟩
        rw [HA.out]
        go_wp2_with fail
        refine (rsign_any _ br str (some r0) 41 41 rfl (hI.out.rst.drewN q)).mono ?_
        rintro e w2 ⟨rfl, hr2, hf2⟩
        go_wp2
        go_ret
        exact EInv.last hlt hI.out ((EInv.at hI.out).1 HA.out) hr2 (((Fr.refl _ _).drewN q).trans hf2)
      | false =>
        have HA := Lib.hid ha
        clear ha
        have hnat := (EInv.at hI.out).2 HA.out r0 rfl
        have HN := Lib.hid hnat
        clear hnat
        by_cases hn : n' = 0
        · subst hn
          go_wp2_with fail
          refine (rat_any _ br str (some r0) 41 41 rfl hI.out.rst).mono ?_
          rintro e w2 ⟨rfl, q, rfl⟩
          rw [HA.out]
          go_wp2_with fail
          refine (HE.out _ (some r0) ((hI.out.fr).drewN q) (hI.out.rst.drewN q) (fun r hr => hI.out.limit HL.out hr)).mono ?_
          rintro e w3 ⟨v, rfl, hty, hst, hf, htx⟩
          obtain ⟨xs, hown⟩ := hI.out.own hlt (((Fr.refl _ _).drewN q).trans hf)
          have hw3 : w.heap.size ≤ w3.heap.size := (hI.out.fr.trans (((Fr.refl _ _).drewN q).trans hf)).size
          obtain ⟨z0_0n, z0_1n, z0_2A, z0_2k, z0_2c, z1A, z1k, z1c, rfl⟩ := ty_store hty
          rw [val_store]
          have HTY := Lib.hid hty
          have HST := Lib.hid hst
          have HFF := Lib.hid hf
          have HTX := Lib.hid htx
          clear hty hst hf htx
          rw [hsz] at hown
          go_wp2_with (at_builtin; refine wpList_pushS w3 rfl _ _ 28 104 rfl Tryz.underlying28 4 64 info_el_store (by decide) (by decide) w.heap.size _ 0 xs [.int .i64 z0_0n, .int .i64 z0_1n, .slice z0_2A z0_2k z0_2c, .slice z1A z1k z1c] (by rfl) hown (by rfl) rfl HTY.out.one (by omega) hw3 ?_)
          intro g' cap w4 hown' hg hgb hglt
          rw [← hsz] at hown hown'
          have HI2 := Lib.hid (EInv.next one_store hlt hI.out HN.out ((Fr.refl _ _).drewN q) rfl HTY.out HST.out HFF.out HTX.out hown hown' hg hgb hglt)
          have hsm2 := HI2.out.small
          clear hown' hg hgb hglt hown
          go_wp2
          go_roundw
          case rel => exact ⟨_, _, HI2⟩
          case measure => simp [lenOf]
        · have hkp : decide (0 < n') = true := by simp; omega
          have hn0 : 0 < n' := by omega
          go_wp2_with fail
          refine (rat_any _ br str (some r0) 41 41 rfl hI.out.rst).mono ?_
          rintro e w2 ⟨rfl, q, rfl⟩
          rw [HA.out]
          go_wp2_with fail
          refine (rsign_any _ br str (some r0) 32 32 rfl (hI.out.rst.drewN q)).mono ?_
          rintro e w2 ⟨rfl, hr2, hf2⟩
          have HR2 := Lib.hid hr2
          have HF2 := Lib.hid (((Fr.refl _ _).drewN q).trans hf2)
          clear hr2 hf2
          go_wp2_with fail
          refine (HE.out _ (want 32 (some r0)) ((hI.out.fr).trans HF2.out) HR2.out (fun r hr => hI.out.limit HL.out (by rw [if_neg hn]; exact hr))).mono ?_
          rintro e w3 ⟨v, rfl, hty, hst, hf, htx⟩
          obtain ⟨xs, hown⟩ := hI.out.own hlt (HF2.out.trans hf)
          have hw3 : w.heap.size ≤ w3.heap.size := (hI.out.fr.trans (HF2.out.trans hf)).size
          obtain ⟨z0_0n, z0_1n, z0_2A, z0_2k, z0_2c, z1A, z1k, z1c, rfl⟩ := ty_store hty
          rw [val_store]
          have HTY := Lib.hid hty
          have HST := Lib.hid hst
          have HFF := Lib.hid hf
          have HTX := Lib.hid htx
          clear hty hst hf htx
          rw [hsz] at hown
          go_wp2_with (at_builtin; refine wpList_pushS w3 rfl _ _ 28 104 rfl Tryz.underlying28 4 64 info_el_store (by decide) (by decide) w.heap.size _ n' xs [.int .i64 z0_0n, .int .i64 z0_1n, .slice z0_2A z0_2k z0_2c, .slice z1A z1k z1c] (by rfl) hown (by rfl) rfl HTY.out.one (by omega) hw3 ?_)
          intro g' cap w4 hown' hg hgb hglt
          rw [← hsz] at hown hown'
          have HI2 := Lib.hid (EInv.next one_store hlt hI.out HN.out HF2.out (if_neg hn) HTY.out HST.out HFF.out HTX.out hown hown' hg hgb hglt)
          have hsm2 := HI2.out.small
          clear hown' hg hgb hglt hown
          go_wp2
          go_roundw
          case rel => exact ⟨_, _, HI2⟩
          case measure => simp [lenOf]; omega

theorem info_el_index : (Tryz.prog.info? 209).map (fun i => (i.size, i.bytes, i.zero.map fun z => z.cells.size)) = some (2, 32, some 2) := by kernel_rfl

set_option maxHeartbeats 2000000 in
set_option maxRecDepth 100000 in
theorem el_index (n : Nat) (L : Nat) (g : FuncId) (fi ca : Array Value) (w : World) (br : Nat) (str : ByteArray) (o : Option (List UInt8)) (h : Rst w br str o) (hL : ∀ r, o = some r → r.length ≤ L) (hel : ElR g (fi ++ ca) (indexS n) L br str w) :
    Calls Tryz.prog 283 #[.pointer (some ⟨br, 0, none⟩), .func (.func g) fi ca] w (RPost (.list (indexS n)) br str o w) := by
  obtain ⟨he, hel⟩ := hel
  unfold Enters at he
  have hlt := h.lt
  have hsz : Shape.sz (indexS n) = 2 := sz_index
  have HR := Lib.hid h
  have HL := Lib.hid hL
  have HE := Lib.hid hel
  clear h hL hel
  go_enter Tryz.func283, Tryz.ntmps283
  go_wp2_with fail
  refine (rsign_any _ br str o 40 40 rfl HR.out).mono ?_
  rintro e w1 ⟨rfl, hr1, hf1⟩
  have I0 := EInv.start (s := (indexS n)) (e := 209) HR.out hr1 hf1
  have HI0 := Lib.hid I0
  clear I0 hr1 hf1
  go_wp2
  go_loopw [5] (fun lv wr => ∃ (n' : Nat) (o' : Option (List UInt8)), Hid (EInv (indexS n) 209 br str o w lv n' o' wr)) (fun lv _ => 262146 - lenOf lv)
  case atStart => exact ⟨0, _, HI0⟩
  case round =>
    obtain ⟨n', o', hI⟩ := hrel
    clear HI0
    obtain ⟨A, c, rfl, hnc, hcm⟩ := hI.out.form
    have hsm := hI.out.small
    have c2 := hI.out.rst.cell
    unfold maxLen at hcm
    cases o' with
    | none =>
      go_wp2_with fail
      refine (rsign_any _ br str none 41 41 rfl hI.out.rst).mono ?_
      rintro e w2 ⟨rfl, hr2, hf2⟩
      go_wp2
      go_ret
      exact EInv.last hlt hI.out (.inl rfl) hr2 hf2
    | some r0 =>
      cases ha : isAt 41 (some r0) with
      | true =>
        have HA := Lib.hid ha
        clear ha
        go_wp2_with fail
        refine (rat_any _ br str (some r0) 41 41 rfl hI.out.rst).mono ?_
        rintro e w2 ⟨rfl, q, rfl⟩
        rw [HA.out]
        go_wp2_with fail
        refine (rsign_any _ br str (some r0) 41 41 rfl (hI.out.rst.drewN q)).mono ?_
        rintro e w2 ⟨rfl, hr2, hf2⟩
        go_wp2
        go_ret
        exact EInv.last hlt hI.out ((EInv.at hI.out).1 HA.out) hr2 (((Fr.refl _ _).drewN q).trans hf2)
      | false =>
        have HA := Lib.hid ha
        clear ha
        have hnat := (EInv.at hI.out).2 HA.out r0 rfl
        have HN := Lib.hid hnat
        clear hnat
        by_cases hn : n' = 0
        · subst hn
          go_wp2_with fail
          refine (rat_any _ br str (some r0) 41 41 rfl hI.out.rst).mono ?_
          rintro e w2 ⟨rfl, q, rfl⟩
          rw [HA.out]
          go_wp2_with fail
          refine (HE.out _ (some r0) ((hI.out.fr).drewN q) (hI.out.rst.drewN q) (fun r hr => hI.out.limit HL.out hr)).mono ?_
          rintro e w3 ⟨v, rfl, hty, hst, hf, htx⟩
          obtain ⟨xs, hown⟩ := hI.out.own hlt (((Fr.refl _ _).drewN q).trans hf)
          have hw3 : w.heap.size ≤ w3.heap.size := (hI.out.fr.trans (((Fr.refl _ _).drewN q).trans hf)).size
          obtain ⟨z0n, z1A, z1k, z1c, rfl⟩ := ty_index hty
          rw [val_index]
          have HTY := Lib.hid hty
          have HST := Lib.hid hst
          have HFF := Lib.hid hf
          have HTX := Lib.hid htx
          clear hty hst hf htx
          rw [hsz] at hown
          go_wp2_with (at_builtin; refine wpList_pushS w3 rfl _ _ 207 209 rfl Tryz.underlying207 2 32 info_el_index (by decide) (by decide) w.heap.size _ 0 xs [.int .i64 z0n, .slice z1A z1k z1c] (by rfl) hown (by rfl) rfl HTY.out.one (by omega) hw3 ?_)
          intro g' cap w4 hown' hg hgb hglt
          rw [← hsz] at hown hown'
          have HI2 := Lib.hid (EInv.next one_index hlt hI.out HN.out ((Fr.refl _ _).drewN q) rfl HTY.out HST.out HFF.out HTX.out hown hown' hg hgb hglt)
          have hsm2 := HI2.out.small
          clear hown' hg hgb hglt hown
          go_wp2
          go_roundw
          case rel => exact ⟨_, _, HI2⟩
          case measure => simp [lenOf]
        · have hkp : decide (0 < n') = true := by simp; omega
          have hn0 : 0 < n' := by omega
          go_wp2_with fail
          refine (rat_any _ br str (some r0) 41 41 rfl hI.out.rst).mono ?_
          rintro e w2 ⟨rfl, q, rfl⟩
          rw [HA.out]
          go_wp2_with fail
          refine (rsign_any _ br str (some r0) 32 32 rfl (hI.out.rst.drewN q)).mono ?_
          rintro e w2 ⟨rfl, hr2, hf2⟩
          have HR2 := Lib.hid hr2
          have HF2 := Lib.hid (((Fr.refl _ _).drewN q).trans hf2)
          clear hr2 hf2
          go_wp2_with fail
          refine (HE.out _ (want 32 (some r0)) ((hI.out.fr).trans HF2.out) HR2.out (fun r hr => hI.out.limit HL.out (by rw [if_neg hn]; exact hr))).mono ?_
          rintro e w3 ⟨v, rfl, hty, hst, hf, htx⟩
          obtain ⟨xs, hown⟩ := hI.out.own hlt (HF2.out.trans hf)
          have hw3 : w.heap.size ≤ w3.heap.size := (hI.out.fr.trans (HF2.out.trans hf)).size
          obtain ⟨z0n, z1A, z1k, z1c, rfl⟩ := ty_index hty
          rw [val_index]
          have HTY := Lib.hid hty
          have HST := Lib.hid hst
          have HFF := Lib.hid hf
          have HTX := Lib.hid htx
          clear hty hst hf htx
          rw [hsz] at hown
          go_wp2_with (at_builtin; refine wpList_pushS w3 rfl _ _ 207 209 rfl Tryz.underlying207 2 32 info_el_index (by decide) (by decide) w.heap.size _ n' xs [.int .i64 z0n, .slice z1A z1k z1c] (by rfl) hown (by rfl) rfl HTY.out.one (by omega) hw3 ?_)
          intro g' cap w4 hown' hg hgb hglt
          rw [← hsz] at hown hown'
          have HI2 := Lib.hid (EInv.next one_index hlt hI.out HN.out HF2.out (if_neg hn) HTY.out HST.out HFF.out HTX.out hown hown' hg hgb hglt)
          have hsm2 := HI2.out.small
          clear hown' hg hgb hglt hown
          go_wp2
          go_roundw
          case rel => exact ⟨_, _, HI2⟩
          case measure => simp [lenOf]; omega

theorem info_el_factor : (Tryz.prog.info? 211).map (fun i => (i.size, i.bytes, i.zero.map fun z => z.cells.size)) = some (3, 40, some 3) := by kernel_rfl

set_option maxHeartbeats 2000000 in
set_option maxRecDepth 100000 in
theorem el_factor (n : Nat) (L : Nat) (g : FuncId) (fi ca : Array Value) (w : World) (br : Nat) (str : ByteArray) (o : Option (List UInt8)) (h : Rst w br str o) (hL : ∀ r, o = some r → r.length ≤ L) (hel : ElR g (fi ++ ca) (factorS n) L br str w) :
    Calls Tryz.prog 204 #[.pointer (some ⟨br, 0, none⟩), .func (.func g) fi ca] w (RPost (.list (factorS n)) br str o w) := by
  obtain ⟨he, hel⟩ := hel
  unfold Enters at he
  have hlt := h.lt
  have hsz : Shape.sz (factorS n) = 3 := sz_factor
  have HR := Lib.hid h
  have HL := Lib.hid hL
  have HE := Lib.hid hel
  clear h hL hel
  go_enter Tryz.func204, Tryz.ntmps204
  go_wp2_with fail
  refine (rsign_any _ br str o 40 40 rfl HR.out).mono ?_
  rintro e w1 ⟨rfl, hr1, hf1⟩
  have I0 := EInv.start (s := (factorS n)) (e := 211) HR.out hr1 hf1
  have HI0 := Lib.hid I0
  clear I0 hr1 hf1
  go_wp2
  go_loopw [5] (fun lv wr => ∃ (n' : Nat) (o' : Option (List UInt8)), Hid (EInv (factorS n) 211 br str o w lv n' o' wr)) (fun lv _ => 262146 - lenOf lv)
  case atStart => exact ⟨0, _, HI0⟩
  case round =>
    obtain ⟨n', o', hI⟩ := hrel
    clear HI0
    obtain ⟨A, c, rfl, hnc, hcm⟩ := hI.out.form
    have hsm := hI.out.small
    have c2 := hI.out.rst.cell
    unfold maxLen at hcm
    cases o' with
    | none =>
      go_wp2_with fail
      refine (rsign_any _ br str none 41 41 rfl hI.out.rst).mono ?_
      rintro e w2 ⟨rfl, hr2, hf2⟩
      go_wp2
      go_ret
      exact EInv.last hlt hI.out (.inl rfl) hr2 hf2
    | some r0 =>
      cases ha : isAt 41 (some r0) with
      | true =>
        have HA := Lib.hid ha
        clear ha
        go_wp2_with fail
        refine (rat_any _ br str (some r0) 41 41 rfl hI.out.rst).mono ?_
        rintro e w2 ⟨rfl, q, rfl⟩
        rw [HA.out]
        go_wp2_with fail
        refine (rsign_any _ br str (some r0) 41 41 rfl (hI.out.rst.drewN q)).mono ?_
        rintro e w2 ⟨rfl, hr2, hf2⟩
        go_wp2
        go_ret
        exact EInv.last hlt hI.out ((EInv.at hI.out).1 HA.out) hr2 (((Fr.refl _ _).drewN q).trans hf2)
      | false =>
        have HA := Lib.hid ha
        clear ha
        have hnat := (EInv.at hI.out).2 HA.out r0 rfl
        have HN := Lib.hid hnat
        clear hnat
        by_cases hn : n' = 0
        · subst hn
          go_wp2_with fail
          refine (rat_any _ br str (some r0) 41 41 rfl hI.out.rst).mono ?_
          rintro e w2 ⟨rfl, q, rfl⟩
          rw [HA.out]
          go_wp2_with fail
          refine (HE.out _ (some r0) ((hI.out.fr).drewN q) (hI.out.rst.drewN q) (fun r hr => hI.out.limit HL.out hr)).mono ?_
          rintro e w3 ⟨v, rfl, hty, hst, hf, htx⟩
          obtain ⟨xs, hown⟩ := hI.out.own hlt (((Fr.refl _ _).drewN q).trans hf)
          have hw3 : w.heap.size ≤ w3.heap.size := (hI.out.fr.trans (((Fr.refl _ _).drewN q).trans hf)).size
          obtain ⟨z0n, z1_0n, z1_1A, z1_1k, z1_1c, rfl⟩ := ty_factor hty
          rw [val_factor]
          have HTY := Lib.hid hty
          have HST := Lib.hid hst
          have HFF := Lib.hid hf
          have HTX := Lib.hid htx
          clear hty hst hf htx
          rw [hsz] at hown
          go_wp2_with (at_builtin; refine wpList_pushS w3 rfl _ _ 111 211 rfl Tryz.underlying111 3 40 info_el_factor (by decide) (by decide) w.heap.size _ 0 xs [.int .i64 z0n, .int .i64 z1_0n, .slice z1_1A z1_1k z1_1c] (by rfl) hown (by rfl) rfl HTY.out.one (by omega) hw3 ?_)
          intro g' cap w4 hown' hg hgb hglt
          rw [← hsz] at hown hown'
          have HI2 := Lib.hid (EInv.next one_factor hlt hI.out HN.out ((Fr.refl _ _).drewN q) rfl HTY.out HST.out HFF.out HTX.out hown hown' hg hgb hglt)
          have hsm2 := HI2.out.small
          clear hown' hg hgb hglt hown
          go_wp2
          go_roundw
          case rel => exact ⟨_, _, HI2⟩
          case measure => simp [lenOf]
        · have hkp : decide (0 < n') = true := by simp; omega
          have hn0 : 0 < n' := by omega
          go_wp2_with fail
          refine (rat_any _ br str (some r0) 41 41 rfl hI.out.rst).mono ?_
          rintro e w2 ⟨rfl, q, rfl⟩
          rw [HA.out]
          go_wp2_with fail
          refine (rsign_any _ br str (some r0) 32 32 rfl (hI.out.rst.drewN q)).mono ?_
          rintro e w2 ⟨rfl, hr2, hf2⟩
          have HR2 := Lib.hid hr2
          have HF2 := Lib.hid (((Fr.refl _ _).drewN q).trans hf2)
          clear hr2 hf2
          go_wp2_with fail
          refine (HE.out _ (want 32 (some r0)) ((hI.out.fr).trans HF2.out) HR2.out (fun r hr => hI.out.limit HL.out (by rw [if_neg hn]; exact hr))).mono ?_
          rintro e w3 ⟨v, rfl, hty, hst, hf, htx⟩
          obtain ⟨xs, hown⟩ := hI.out.own hlt (HF2.out.trans hf)
          have hw3 : w.heap.size ≤ w3.heap.size := (hI.out.fr.trans (HF2.out.trans hf)).size
          obtain ⟨z0n, z1_0n, z1_1A, z1_1k, z1_1c, rfl⟩ := ty_factor hty
          rw [val_factor]
          have HTY := Lib.hid hty
          have HST := Lib.hid hst
          have HFF := Lib.hid hf
          have HTX := Lib.hid htx
          clear hty hst hf htx
          rw [hsz] at hown
          go_wp2_with (at_builtin; refine wpList_pushS w3 rfl _ _ 111 211 rfl Tryz.underlying111 3 40 info_el_factor (by decide) (by decide) w.heap.size _ n' xs [.int .i64 z0n, .int .i64 z1_0n, .slice z1_1A z1_1k z1_1c] (by rfl) hown (by rfl) rfl HTY.out.one (by omega) hw3 ?_)
          intro g' cap w4 hown' hg hgb hglt
          rw [← hsz] at hown hown'
          have HI2 := Lib.hid (EInv.next one_factor hlt hI.out HN.out HF2.out (if_neg hn) HTY.out HST.out HFF.out HTX.out hown hown' hg hgb hglt)
          have hsm2 := HI2.out.small
          clear hown' hg hgb hglt hown
          go_wp2
          go_roundw
          case rel => exact ⟨_, _, HI2⟩
          case measure => simp [lenOf]; omega

end Go.Proofs.YtdbglgjphfkonaaGreatDoor

