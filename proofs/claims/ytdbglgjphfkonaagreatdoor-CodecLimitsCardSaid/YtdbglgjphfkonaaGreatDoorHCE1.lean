/-
  The reader: lists (printed by gen_codec.py).
-/
import Derived.Test.YtdbglgjphfkonaaGreatDoorHCRa
namespace Go.Proofs.YtdbglgjphfkonaaGreatDoor
open Go.RowKit AC
set_option linter.unusedVariables false
set_option linter.unusedSimpArgs false

theorem info_el_int64 : (Tryz.prog.info? 2).map (fun i => (i.size, i.bytes, i.zero.map fun z => z.cells.size)) = some (1, 8, some 1) := by kernel_rfl

set_option maxHeartbeats 2000000 in
set_option maxRecDepth 100000 in
theorem el_int64 (L : Nat) (g : FuncId) (fi ca : Array Value) (w : World) (br : Nat) (str : ByteArray) (o : Option (List UInt8)) (h : Rst w br str o) (hL : ∀ r, o = some r → r.length ≤ L) (hel : ElR g (fi ++ ca) .int L br str w) :
    Calls Tryz.prog 128 #[.pointer (some ⟨br, 0, none⟩), .func (.func g) fi ca] w (RPost (.list .int) br str o w) := by
  obtain ⟨he, hel⟩ := hel
  unfold Enters at he
  have hlt := h.lt
  have hsz : Shape.sz .int = 1 := rfl
  have HR := Lib.hid h
  have HL := Lib.hid hL
  have HE := Lib.hid hel
  clear h hL hel
  go_enter Tryz.func128, Tryz.ntmps128
  go_wp2_with fail
  refine (rsign_any _ br str o 40 40 rfl HR.out).mono ?_
  rintro e w1 ⟨rfl, hr1, hf1⟩
  have I0 := EInv.start (s := .int) (e := 2) HR.out hr1 hf1
  have HI0 := Lib.hid I0
  clear I0 hr1 hf1
  go_wp2
  go_loopw [5] (fun lv wr => ∃ (n' : Nat) (o' : Option (List UInt8)), Hid (EInv .int 2 br str o w lv n' o' wr)) (fun lv _ => 262146 - lenOf lv)
  case atStart => exact ⟨0, _, HI0⟩
  case round =>
    obtain ⟨n', o', hI⟩ := hrel
    clear HI0
    obtain ⟨A, c, rfl, hnc, hcm⟩ := hI.out.form
    have hsm := hI.out.small
    have c2 := hI.out.rst.cell
    unfold maxLen at hcm
    cases o' with
    | none =>
      go_wp2_with fail
      refine (rsign_any _ br str none 41 41 rfl hI.out.rst).mono ?_
      rintro e w2 ⟨rfl, hr2, hf2⟩
      go_wp2
      go_ret
      exact EInv.last hlt hI.out (.inl rfl) hr2 hf2
    | some r0 =>
      cases ha : isAt 41 (some r0) with
      | true =>
        have HA := Lib.hid ha
        clear ha
        go_wp2_with fail
        refine (rat_any _ br str (some r0) 41 41 rfl hI.out.rst).mono ?_
        rintro e w2 ⟨rfl, q, rfl⟩
        rw [HA.out]
        go_wp2_with fail
        refine (rsign_any _ br str (some r0) 41 41 rfl (hI.out.rst.drewN q)).mono ?_
        rintro e w2 ⟨rfl, hr2, hf2⟩
        go_wp2
        go_ret
        exact EInv.last hlt hI.out ((EInv.at hI.out).1 HA.out) hr2 (((Fr.refl _ _).drewN q).trans hf2)
      | false =>
        have HA := Lib.hid ha
        clear ha
        have hnat := (EInv.at hI.out).2 HA.out r0 rfl
        have HN := Lib.hid hnat
        clear hnat
        by_cases hn : n' = 0
        · subst hn
          go_wp2_with fail
          refine (rat_any _ br str (some r0) 41 41 rfl hI.out.rst).mono ?_
          rintro e w2 ⟨rfl, q, rfl⟩
          rw [HA.out]
          go_wp2_with fail
          refine (HE.out _ (some r0) ((hI.out.fr).drewN q) (hI.out.rst.drewN q) (fun r hr => hI.out.limit HL.out hr)).mono ?_
          rintro e w3 ⟨v, rfl, hty, hst, hf, htx⟩
          obtain ⟨xs, hown⟩ := hI.out.own hlt (((Fr.refl _ _).drewN q).trans hf)
          have hw3 : w.heap.size ≤ w3.heap.size := (hI.out.fr.trans (((Fr.refl _ _).drewN q).trans hf)).size
          obtain ⟨zn, rfl⟩ := ty_int hty
          rw [val_int]
          have HTY := Lib.hid hty
          have HST := Lib.hid hst
          have HFF := Lib.hid hf
          have HTX := Lib.hid htx
          clear hty hst hf htx
          rw [hsz] at hown
          go_wp2_with (at_builtin; refine wpList_pushS w3 rfl _ _ 23 2 rfl Tryz.underlying23 1 8 info_el_int64 (by decide) (by decide) w.heap.size _ 0 xs [.int .i64 zn] (by rfl) hown (by rfl) rfl HTY.out.one (by omega) hw3 ?_)
          intro g' cap w4 hown' hg hgb hglt
          rw [← hsz] at hown hown'
          have HI2 := Lib.hid (EInv.next rfl hlt hI.out HN.out ((Fr.refl _ _).drewN q) rfl HTY.out HST.out HFF.out HTX.out hown hown' hg hgb hglt)
          have hsm2 := HI2.out.small
          clear hown' hg hgb hglt hown
          go_wp2
          go_roundw
          case rel => exact ⟨_, _, HI2⟩
          case measure => simp [lenOf]
        · have hkp : decide (0 < n') = true := by simp; omega
          have hn0 : 0 < n' := by omega
          go_wp2_with fail
          refine (rat_any _ br str (some r0) 41 41 rfl hI.out.rst).mono ?_
          rintro e w2 ⟨rfl, q, rfl⟩
          rw [HA.out]
          go_wp2_with fail
          refine (rsign_any _ br str (some r0) 32 32 rfl (hI.out.rst.drewN q)).mono ?_
          rintro e w2 ⟨rfl, hr2, hf2⟩
          have HR2 := Lib.hid hr2
          have HF2 := Lib.hid (((Fr.refl _ _).drewN q).trans hf2)
          clear hr2 hf2
          go_wp2_with fail
          refine (HE.out _ (want 32 (some r0)) ((hI.out.fr).trans HF2.out) HR2.out (fun r hr => hI.out.limit HL.out (by rw [if_neg hn]; exact hr))).mono ?_
          rintro e w3 ⟨v, rfl, hty, hst, hf, htx⟩
          obtain ⟨xs, hown⟩ := hI.out.own hlt (HF2.out.trans hf)
          have hw3 : w.heap.size ≤ w3.heap.size := (hI.out.fr.trans (HF2.out.trans hf)).size
          obtain ⟨zn, rfl⟩ := ty_int hty
          rw [val_int]
          have HTY := Lib.hid hty
          have HST := Lib.hid hst
          have HFF := Lib.hid hf
          have HTX := Lib.hid htx
          clear hty hst hf htx
          rw [hsz] at hown
          go_wp2_with (at_builtin; refine wpList_pushS w3 rfl _ _ 23 2 rfl Tryz.underlying23 1 8 info_el_int64 (by decide) (by decide) w.heap.size _ n' xs [.int .i64 zn] (by rfl) hown (by rfl) rfl HTY.out.one (by omega) hw3 ?_)
          intro g' cap w4 hown' hg hgb hglt
          rw [← hsz] at hown hown'
          have HI2 := Lib.hid (EInv.next rfl hlt hI.out HN.out HF2.out (if_neg hn) HTY.out HST.out HFF.out HTX.out hown hown' hg hgb hglt)
          have hsm2 := HI2.out.small
          clear hown' hg hgb hglt hown
          go_wp2
          go_roundw
          case rel => exact ⟨_, _, HI2⟩
          case measure => simp [lenOf]; omega

theorem info_el_int : (Tryz.prog.info? 3).map (fun i => (i.size, i.bytes, i.zero.map fun z => z.cells.size)) = some (1, 8, some 1) := by kernel_rfl

set_option maxHeartbeats 2000000 in
set_option maxRecDepth 100000 in
theorem el_int (L : Nat) (g : FuncId) (fi ca : Array Value) (w : World) (br : Nat) (str : ByteArray) (o : Option (List UInt8)) (h : Rst w br str o) (hL : ∀ r, o = some r → r.length ≤ L) (hel : ElR g (fi ++ ca) .int L br str w) :
    Calls Tryz.prog 134 #[.pointer (some ⟨br, 0, none⟩), .func (.func g) fi ca] w (RPost (.list .int) br str o w) := by
  obtain ⟨he, hel⟩ := hel
  unfold Enters at he
  have hlt := h.lt
  have hsz : Shape.sz .int = 1 := rfl
  have HR := Lib.hid h
  have HL := Lib.hid hL
  have HE := Lib.hid hel
  clear h hL hel
  go_enter Tryz.func134, Tryz.ntmps134
  go_wp2_with fail
  refine (rsign_any _ br str o 40 40 rfl HR.out).mono ?_
  rintro e w1 ⟨rfl, hr1, hf1⟩
  have I0 := EInv.start (s := .int) (e := 3) HR.out hr1 hf1
  have HI0 := Lib.hid I0
  clear I0 hr1 hf1
  go_wp2
  go_loopw [5] (fun lv wr => ∃ (n' : Nat) (o' : Option (List UInt8)), Hid (EInv .int 3 br str o w lv n' o' wr)) (fun lv _ => 262146 - lenOf lv)
  case atStart => exact ⟨0, _, HI0⟩
  case round =>
    obtain ⟨n', o', hI⟩ := hrel
    clear HI0
    obtain ⟨A, c, rfl, hnc, hcm⟩ := hI.out.form
    have hsm := hI.out.small
    have c2 := hI.out.rst.cell
    unfold maxLen at hcm
    cases o' with
    | none =>
      go_wp2_with fail
      refine (rsign_any _ br str none 41 41 rfl hI.out.rst).mono ?_
      rintro e w2 ⟨rfl, hr2, hf2⟩
      go_wp2
      go_ret
      exact EInv.last hlt hI.out (.inl rfl) hr2 hf2
    | some r0 =>
      cases ha : isAt 41 (some r0) with
      | true =>
        have HA := Lib.hid ha
        clear ha
        go_wp2_with fail
        refine (rat_any _ br str (some r0) 41 41 rfl hI.out.rst).mono ?_
        rintro e w2 ⟨rfl, q, rfl⟩
        rw [HA.out]
        go_wp2_with fail
        refine (rsign_any _ br str (some r0) 41 41 rfl (hI.out.rst.drewN q)).mono ?_
        rintro e w2 ⟨rfl, hr2, hf2⟩
        go_wp2
        go_ret
        exact EInv.last hlt hI.out ((EInv.at hI.out).1 HA.out) hr2 (((Fr.refl _ _).drewN q).trans hf2)
      | false =>
        have HA := Lib.hid ha
        clear ha
        have hnat := (EInv.at hI.out).2 HA.out r0 rfl
        have HN := Lib.hid hnat
        clear hnat
        by_cases hn : n' = 0
        · subst hn
          go_wp2_with fail
          refine (rat_any _ br str (some r0) 41 41 rfl hI.out.rst).mono ?_
          rintro e w2 ⟨rfl, q, rfl⟩
          rw [HA.out]
          go_wp2_with fail
          refine (HE.out _ (some r0) ((hI.out.fr).drewN q) (hI.out.rst.drewN q) (fun r hr => hI.out.limit HL.out hr)).mono ?_
          rintro e w3 ⟨v, rfl, hty, hst, hf, htx⟩
          obtain ⟨xs, hown⟩ := hI.out.own hlt (((Fr.refl _ _).drewN q).trans hf)
          have hw3 : w.heap.size ≤ w3.heap.size := (hI.out.fr.trans (((Fr.refl _ _).drewN q).trans hf)).size
          obtain ⟨zn, rfl⟩ := ty_int hty
          rw [val_int]
          have HTY := Lib.hid hty
          have HST := Lib.hid hst
          have HFF := Lib.hid hf
          have HTX := Lib.hid htx
          clear hty hst hf htx
          rw [hsz] at hown
          go_wp2_with (at_builtin; refine wpList_pushS w3 rfl _ _ 68 3 rfl Tryz.underlying68 1 8 info_el_int (by decide) (by decide) w.heap.size _ 0 xs [.int .i64 zn] (by rfl) hown (by rfl) rfl HTY.out.one (by omega) hw3 ?_)
          intro g' cap w4 hown' hg hgb hglt
          rw [← hsz] at hown hown'
          have HI2 := Lib.hid (EInv.next rfl hlt hI.out HN.out ((Fr.refl _ _).drewN q) rfl HTY.out HST.out HFF.out HTX.out hown hown' hg hgb hglt)
          have hsm2 := HI2.out.small
          clear hown' hg hgb hglt hown
          go_wp2
          go_roundw
          case rel => exact ⟨_, _, HI2⟩
          case measure => simp [lenOf]
        · have hkp : decide (0 < n') = true := by simp; omega
          have hn0 : 0 < n' := by omega
          go_wp2_with fail
          refine (rat_any _ br str (some r0) 41 41 rfl hI.out.rst).mono ?_
          rintro e w2 ⟨rfl, q, rfl⟩
          rw [HA.out]
          go_wp2_with fail
          refine (rsign_any _ br str (some r0) 32 32 rfl (hI.out.rst.drewN q)).mono ?_
          rintro e w2 ⟨rfl, hr2, hf2⟩
          have HR2 := Lib.hid hr2
          have HF2 := Lib.hid (((Fr.refl _ _).drewN q).trans hf2)
          clear hr2 hf2
          go_wp2_with fail
          refine (HE.out _ (want 32 (some r0)) ((hI.out.fr).trans HF2.out) HR2.out (fun r hr => hI.out.limit HL.out (by rw [if_neg hn]; exact hr))).mono ?_
          rintro e w3 ⟨v, rfl, hty, hst, hf, htx⟩
          obtain ⟨xs, hown⟩ := hI.out.own hlt (HF2.out.trans hf)
          have hw3 : w.heap.size ≤ w3.heap.size := (hI.out.fr.trans (HF2.out.trans hf)).size
          obtain ⟨zn, rfl⟩ := ty_int hty
          rw [val_int]
          have HTY := Lib.hid hty
          have HST := Lib.hid hst
          have HFF := Lib.hid hf
          have HTX := Lib.hid htx
          clear hty hst hf htx
          rw [hsz] at hown
          go_wp2_with (at_builtin; refine wpList_pushS w3 rfl _ _ 68 3 rfl Tryz.underlying68 1 8 info_el_int (by decide) (by decide) w.heap.size _ n' xs [.int .i64 zn] (by rfl) hown (by rfl) rfl HTY.out.one (by omega) hw3 ?_)
          intro g' cap w4 hown' hg hgb hglt
          rw [← hsz] at hown hown'
          have HI2 := Lib.hid (EInv.next rfl hlt hI.out HN.out HF2.out (if_neg hn) HTY.out HST.out HFF.out HTX.out hown hown' hg hgb hglt)
          have hsm2 := HI2.out.small
          clear hown' hg hgb hglt hown
          go_wp2
          go_roundw
          case rel => exact ⟨_, _, HI2⟩
          case measure => simp [lenOf]; omega

theorem info_el_rat : (Tryz.prog.info? 110).map (fun i => (i.size, i.bytes, i.zero.map fun z => z.cells.size)) = some (3, 56, some 3) := by kernel_rfl

set_option maxHeartbeats 2000000 in
set_option maxRecDepth 100000 in
theorem el_rat (L : Nat) (g : FuncId) (fi ca : Array Value) (w : World) (br : Nat) (str : ByteArray) (o : Option (List UInt8)) (h : Rst w br str o) (hL : ∀ r, o = some r → r.length ≤ L) (hel : ElR g (fi ++ ca) .rat L br str w) :
    Calls Tryz.prog 150 #[.pointer (some ⟨br, 0, none⟩), .func (.func g) fi ca] w (RPost (.list .rat) br str o w) := by
  obtain ⟨he, hel⟩ := hel
  unfold Enters at he
  have hlt := h.lt
  have hsz : Shape.sz .rat = 3 := rfl
  have HR := Lib.hid h
  have HL := Lib.hid hL
  have HE := Lib.hid hel
  clear h hL hel
  go_enter Tryz.func150, Tryz.ntmps150
  go_wp2_with fail
  refine (rsign_any _ br str o 40 40 rfl HR.out).mono ?_
  rintro e w1 ⟨rfl, hr1, hf1⟩
  have I0 := EInv.start (s := .rat) (e := 110) HR.out hr1 hf1
  have HI0 := Lib.hid I0
  clear I0 hr1 hf1
  go_wp2
  go_loopw [5] (fun lv wr => ∃ (n' : Nat) (o' : Option (List UInt8)), Hid (EInv .rat 110 br str o w lv n' o' wr)) (fun lv _ => 262146 - lenOf lv)
  case atStart => exact ⟨0, _, HI0⟩
  case round =>
    obtain ⟨n', o', hI⟩ := hrel
    clear HI0
    obtain ⟨A, c, rfl, hnc, hcm⟩ := hI.out.form
    have hsm := hI.out.small
    have c2 := hI.out.rst.cell
    unfold maxLen at hcm
    cases o' with
    | none =>
      go_wp2_with fail
      refine (rsign_any _ br str none 41 41 rfl hI.out.rst).mono ?_
      rintro e w2 ⟨rfl, hr2, hf2⟩
      go_wp2
      go_ret
      exact EInv.last hlt hI.out (.inl rfl) hr2 hf2
    | some r0 =>
      cases ha : isAt 41 (some r0) with
      | true =>
        have HA := Lib.hid ha
        clear ha
        go_wp2_with fail
        refine (rat_any _ br str (some r0) 41 41 rfl hI.out.rst).mono ?_
        rintro e w2 ⟨rfl, q, rfl⟩
        rw [HA.out]
        go_wp2_with fail
        refine (rsign_any _ br str (some r0) 41 41 rfl (hI.out.rst.drewN q)).mono ?_
        rintro e w2 ⟨rfl, hr2, hf2⟩
        go_wp2
        go_ret
        exact EInv.last hlt hI.out ((EInv.at hI.out).1 HA.out) hr2 (((Fr.refl _ _).drewN q).trans hf2)
      | false =>
        have HA := Lib.hid ha
        clear ha
        have hnat := (EInv.at hI.out).2 HA.out r0 rfl
        have HN := Lib.hid hnat
        clear hnat
        by_cases hn : n' = 0
        · subst hn
          go_wp2_with fail
          refine (rat_any _ br str (some r0) 41 41 rfl hI.out.rst).mono ?_
          rintro e w2 ⟨rfl, q, rfl⟩
          rw [HA.out]
          go_wp2_with fail
          refine (HE.out _ (some r0) ((hI.out.fr).drewN q) (hI.out.rst.drewN q) (fun r hr => hI.out.limit HL.out hr)).mono ?_
          rintro e w3 ⟨v, rfl, hty, hst, hf, htx⟩
          obtain ⟨xs, hown⟩ := hI.out.own hlt (((Fr.refl _ _).drewN q).trans hf)
          have hw3 : w.heap.size ≤ w3.heap.size := (hI.out.fr.trans (((Fr.refl _ _).drewN q).trans hf)).size
          obtain ⟨zb, zA, zk, zc, zD, zl, zd, rfl⟩ := ty_rat hty
          rw [val_rat]
          have HTY := Lib.hid hty
          have HST := Lib.hid hst
          have HFF := Lib.hid hf
          have HTX := Lib.hid htx
          clear hty hst hf htx
          rw [hsz] at hown
          go_wp2_with (at_builtin; refine wpList_pushS w3 rfl _ _ 69 110 rfl Tryz.underlying69 3 56 info_el_rat (by decide) (by decide) w.heap.size _ 0 xs [.bool zb, .slice zA zk zc, .slice zD zl zd] (by rfl) hown (by rfl) rfl HTY.out.one (by omega) hw3 ?_)
          intro g' cap w4 hown' hg hgb hglt
          rw [← hsz] at hown hown'
          have HI2 := Lib.hid (EInv.next rfl hlt hI.out HN.out ((Fr.refl _ _).drewN q) rfl HTY.out HST.out HFF.out HTX.out hown hown' hg hgb hglt)
          have hsm2 := HI2.out.small
          clear hown' hg hgb hglt hown
          go_wp2
          go_roundw
          case rel => exact ⟨_, _, HI2⟩
          case measure => simp [lenOf]
        · have hkp : decide (0 < n') = true := by simp; omega
          have hn0 : 0 < n' := by omega
          go_wp2_with fail
          refine (rat_any _ br str (some r0) 41 41 rfl hI.out.rst).mono ?_
          rintro e w2 ⟨rfl, q, rfl⟩
          rw [HA.out]
          go_wp2_with fail
          refine (rsign_any _ br str (some r0) 32 32 rfl (hI.out.rst.drewN q)).mono ?_
          rintro e w2 ⟨rfl, hr2, hf2⟩
          have HR2 := Lib.hid hr2
          have HF2 := Lib.hid (((Fr.refl _ _).drewN q).trans hf2)
          clear hr2 hf2
          go_wp2_with fail
          refine (HE.out _ (want 32 (some r0)) ((hI.out.fr).trans HF2.out) HR2.out (fun r hr => hI.out.limit HL.out (by rw [if_neg hn]; exact hr))).mono ?_
          rintro e w3 ⟨v, rfl, hty, hst, hf, htx⟩
          obtain ⟨xs, hown⟩ := hI.out.own hlt (HF2.out.trans hf)
          have hw3 : w.heap.size ≤ w3.heap.size := (hI.out.fr.trans (HF2.out.trans hf)).size
          obtain ⟨zb, zA, zk, zc, zD, zl, zd, rfl⟩ := ty_rat hty
          rw [val_rat]
          have HTY := Lib.hid hty
          have HST := Lib.hid hst
          have HFF := Lib.hid hf
          have HTX := Lib.hid htx
          clear hty hst hf htx
          rw [hsz] at hown
          go_wp2_with (at_builtin; refine wpList_pushS w3 rfl _ _ 69 110 rfl Tryz.underlying69 3 56 info_el_rat (by decide) (by decide) w.heap.size _ n' xs [.bool zb, .slice zA zk zc, .slice zD zl zd] (by rfl) hown (by rfl) rfl HTY.out.one (by omega) hw3 ?_)
          intro g' cap w4 hown' hg hgb hglt
          rw [← hsz] at hown hown'
          have HI2 := Lib.hid (EInv.next rfl hlt hI.out HN.out HF2.out (if_neg hn) HTY.out HST.out HFF.out HTX.out hown hown' hg hgb hglt)
          have hsm2 := HI2.out.small
          clear hown' hg hgb hglt hown
          go_wp2
          go_roundw
          case rel => exact ⟨_, _, HI2⟩
          case measure => simp [lenOf]; omega

theorem info_el_l_int : (Tryz.prog.info? 68).map (fun i => (i.size, i.bytes, i.zero.map fun z => z.cells.size)) = some (1, 24, some 1) := by kernel_rfl

set_option maxHeartbeats 2000000 in
set_option maxRecDepth 100000 in
theorem el_l_int (L : Nat) (g : FuncId) (fi ca : Array Value) (w : World) (br : Nat) (str : ByteArray) (o : Option (List UInt8)) (h : Rst w br str o) (hL : ∀ r, o = some r → r.length ≤ L) (hel : ElR g (fi ++ ca) (.list .int) L br str w) :
    Calls Tryz.prog 54 #[.pointer (some ⟨br, 0, none⟩), .func (.func g) fi ca] w (RPost (.list (.list .int)) br str o w) := by
  obtain ⟨he, hel⟩ := hel
  unfold Enters at he
  have hlt := h.lt
  have hsz : Shape.sz (.list .int) = 1 := rfl
  have HR := Lib.hid h
  have HL := Lib.hid hL
  have HE := Lib.hid hel
  clear h hL hel
  go_enter Tryz.func54, Tryz.ntmps54
  go_wp2_with fail
  refine (rsign_any _ br str o 40 40 rfl HR.out).mono ?_
  rintro e w1 ⟨rfl, hr1, hf1⟩
  have I0 := EInv.start (s := (.list .int)) (e := 68) HR.out hr1 hf1
  have HI0 := Lib.hid I0
  clear I0 hr1 hf1
  go_wp2
  go_loopw [5] (fun lv wr => ∃ (n' : Nat) (o' : Option (List UInt8)), Hid (EInv (.list .int) 68 br str o w lv n' o' wr)) (fun lv _ => 262146 - lenOf lv)
  case atStart => exact ⟨0, _, HI0⟩
  case round =>
    obtain ⟨n', o', hI⟩ := hrel
    clear HI0
    obtain ⟨A, c, rfl, hnc, hcm⟩ := hI.out.form
    have hsm := hI.out.small
    have c2 := hI.out.rst.cell
    unfold maxLen at hcm
    cases o' with
    | none =>
      go_wp2_with fail
      refine (rsign_any _ br str none 41 41 rfl hI.out.rst).mono ?_
      rintro e w2 ⟨rfl, hr2, hf2⟩
      go_wp2
      go_ret
      exact EInv.last hlt hI.out (.inl rfl) hr2 hf2
    | some r0 =>
      cases ha : isAt 41 (some r0) with
      | true =>
        have HA := Lib.hid ha
        clear ha
        go_wp2_with fail
        refine (rat_any _ br str (some r0) 41 41 rfl hI.out.rst).mono ?_
        rintro e w2 ⟨rfl, q, rfl⟩
        rw [HA.out]
        go_wp2_with fail
        refine (rsign_any _ br str (some r0) 41 41 rfl (hI.out.rst.drewN q)).mono ?_
        rintro e w2 ⟨rfl, hr2, hf2⟩
        go_wp2
        go_ret
        exact EInv.last hlt hI.out ((EInv.at hI.out).1 HA.out) hr2 (((Fr.refl _ _).drewN q).trans hf2)
      | false =>
        have HA := Lib.hid ha
        clear ha
        have hnat := (EInv.at hI.out).2 HA.out r0 rfl
        have HN := Lib.hid hnat
        clear hnat
        by_cases hn : n' = 0
        · subst hn
          go_wp2_with fail
          refine (rat_any _ br str (some r0) 41 41 rfl hI.out.rst).mono ?_
          rintro e w2 ⟨rfl, q, rfl⟩
          rw [HA.out]
          go_wp2_with fail
          refine (HE.out _ (some r0) ((hI.out.fr).drewN q) (hI.out.rst.drewN q) (fun r hr => hI.out.limit HL.out hr)).mono ?_
          rintro e w3 ⟨v, rfl, hty, hst, hf, htx⟩
          obtain ⟨xs, hown⟩ := hI.out.own hlt (((Fr.refl _ _).drewN q).trans hf)
          have hw3 : w.heap.size ≤ w3.heap.size := (hI.out.fr.trans (((Fr.refl _ _).drewN q).trans hf)).size
          obtain ⟨zA, zk, zc, rfl⟩ := ty_list hty
          rw [val_list]
          have HTY := Lib.hid hty
          have HST := Lib.hid hst
          have HFF := Lib.hid hf
          have HTX := Lib.hid htx
          clear hty hst hf htx
          rw [hsz] at hown
          go_wp2_with (at_builtin; refine wpList_pushS w3 rfl _ _ 27 68 rfl Tryz.underlying27 1 24 info_el_l_int (by decide) (by decide) w.heap.size _ 0 xs [.slice zA zk zc] (by rfl) hown (by rfl) rfl HTY.out.one (by omega) hw3 ?_)
          intro g' cap w4 hown' hg hgb hglt
          rw [← hsz] at hown hown'
          have HI2 := Lib.hid (EInv.next rfl hlt hI.out HN.out ((Fr.refl _ _).drewN q) rfl HTY.out HST.out HFF.out HTX.out hown hown' hg hgb hglt)
          have hsm2 := HI2.out.small
          clear hown' hg hgb hglt hown
          go_wp2
          go_roundw
          case rel => exact ⟨_, _, HI2⟩
          case measure => simp [lenOf]
        · have hkp : decide (0 < n') = true := by simp; omega
          have hn0 : 0 < n' := by omega
          go_wp2_with fail
          refine (rat_any _ br str (some r0) 41 41 rfl hI.out.rst).mono ?_
          rintro e w2 ⟨rfl, q, rfl⟩
          rw [HA.out]
          go_wp2_with fail
          refine (rsign_any _ br str (some r0) 32 32 rfl (hI.out.rst.drewN q)).mono ?_
          rintro e w2 ⟨rfl, hr2, hf2⟩
          have HR2 := Lib.hid hr2
          have HF2 := Lib.hid (((Fr.refl _ _).drewN q).trans hf2)
          clear hr2 hf2
          go_wp2_with fail
          refine (HE.out _ (want 32 (some r0)) ((hI.out.fr).trans HF2.out) HR2.out (fun r hr => hI.out.limit HL.out (by rw [if_neg hn]; exact hr))).mono ?_
          rintro e w3 ⟨v, rfl, hty, hst, hf, htx⟩
          obtain ⟨xs, hown⟩ := hI.out.own hlt (HF2.out.trans hf)
          have hw3 : w.heap.size ≤ w3.heap.size := (hI.out.fr.trans (HF2.out.trans hf)).size
          obtain ⟨zA, zk, zc, rfl⟩ := ty_list hty
          rw [val_list]
          have HTY := Lib.hid hty
          have HST := Lib.hid hst
          have HFF := Lib.hid hf
          have HTX := Lib.hid htx
          clear hty hst hf htx
          rw [hsz] at hown
          go_wp2_with (at_builtin; refine wpList_pushS w3 rfl _ _ 27 68 rfl Tryz.underlying27 1 24 info_el_l_int (by decide) (by decide) w.heap.size _ n' xs [.slice zA zk zc] (by rfl) hown (by rfl) rfl HTY.out.one (by omega) hw3 ?_)
          intro g' cap w4 hown' hg hgb hglt
          rw [← hsz] at hown hown'
          have HI2 := Lib.hid (EInv.next rfl hlt hI.out HN.out HF2.out (if_neg hn) HTY.out HST.out HFF.out HTX.out hown hown' hg hgb hglt)
          have hsm2 := HI2.out.small
          clear hown' hg hgb hglt hown
          go_wp2
          go_roundw
          case rel => exact ⟨_, _, HI2⟩
          case measure => simp [lenOf]; omega

end Go.Proofs.YtdbglgjphfkonaaGreatDoor

