/-
  The reader: lists (printed by gen_codec.py).
-/
import Derived.Test.YtdbglgjphfkonaaGreatDoorHCRa
namespace Go.Proofs.YtdbglgjphfkonaaGreatDoor
open Go.RowKit AC
set_option linter.unusedVariables false
set_option linter.unusedSimpArgs false

theorem info_el_l_axiomUse : (Tryz.prog.info? 129).map (fun i => (i.size, i.bytes, i.zero.map fun z => z.cells.size)) = some (1, 24, some 1) := by kernel_rfl

set_option maxHeartbeats 2000000 in
set_option maxRecDepth 100000 in
theorem el_l_axiomUse (n : Nat) (L : Nat) (g : FuncId) (fi ca : Array Value) (w : World) (br : Nat) (str : ByteArray) (o : Option (List UInt8)) (h : Rst w br str o) (hL : ∀ r, o = some r → r.length ≤ L) (hel : ElR g (fi ++ ca) (.list (axuS n)) L br str w) :
    Calls Tryz.prog 79 #[.pointer (some ⟨br, 0, none⟩), .func (.func g) fi ca] w (RPost (.list (.list (axuS n))) br str o w) := by
  obtain ⟨he, hel⟩ := hel
  unfold Enters at he
  have hlt := h.lt
  have hsz : Shape.sz (.list (axuS n)) = 1 := rfl
  have HR := Lib.hid h
  have HL := Lib.hid hL
  have HE := Lib.hid hel
  clear h hL hel
  go_enter Tryz.func79, Tryz.ntmps79
  go_wp2_with fail
  refine (rsign_any _ br str o 40 40 rfl HR.out).mono ?_
  rintro e w1 ⟨rfl, hr1, hf1⟩
  have I0 := EInv.start (s := (.list (axuS n))) (e := 129) HR.out hr1 hf1
  have HI0 := Lib.hid I0
  clear I0 hr1 hf1
  go_wp2
  go_loopw [5] (fun lv wr => ∃ (n' : Nat) (o' : Option (List UInt8)), Hid (EInv (.list (axuS n)) 129 br str o w lv n' o' wr)) (fun lv _ => 262146 - lenOf lv)
  case atStart => exact ⟨0, _, HI0⟩
  case round =>
    obtain ⟨n', o', hI⟩ := hrel
    clear HI0
    obtain ⟨A, c, rfl, hnc, hcm⟩ := hI.out.form
    have hsm := hI.out.small
    have c2 := hI.out.rst.cell
    unfold maxLen at hcm
    cases o' with
    | none =>
      go_wp2_with fail
      refine (rsign_any _ br str none 41 41 rfl hI.out.rst).mono ?_
      rintro e w2 ⟨rfl, hr2, hf2⟩
      go_wp2
      go_ret
      exact EInv.last hlt hI.out (.inl rfl) hr2 hf2
    | some r0 =>
      cases ha : isAt 41 (some r0) with
      | true =>
        have HA := Lib.hid ha
        clear ha
        go_wp2_with fail
        refine (rat_any _ br str (some r0) 41 41 rfl hI.out.rst).mono ?_
        rintro e w2 ⟨rfl, q, rfl⟩
        rw [HA.out]
        go_wp2_with fail
        refine (rsign_any _ br str (some r0) 41 41 rfl (hI.out.rst.drewN q)).mono ?_
        rintro e w2 ⟨rfl, hr2, hf2⟩
        go_wp2
        go_ret
        exact EInv.last hlt hI.out ((EInv.at hI.out).1 HA.out) hr2 (((Fr.refl _ _).drewN q).trans hf2)
      | false =>
        have HA := Lib.hid ha
        clear ha
        have hnat := (EInv.at hI.out).2 HA.out r0 rfl
        have HN := Lib.hid hnat
        clear hnat
        by_cases hn : n' = 0
        · subst hn
          go_wp2_with fail
          refine (rat_any _ br str (some r0) 41 41 rfl hI.out.rst).mono ?_
          rintro e w2 ⟨rfl, q, rfl⟩
          rw [HA.out]
          go_wp2_with fail
          refine (HE.out _ (some r0) ((hI.out.fr).drewN q) (hI.out.rst.drewN q) (fun r hr => hI.out.limit HL.out hr)).mono ?_
          rintro e w3 ⟨v, rfl, hty, hst, hf, htx⟩
          obtain ⟨xs, hown⟩ := hI.out.own hlt (((Fr.refl _ _).drewN q).trans hf)
          have hw3 : w.heap.size ≤ w3.heap.size := (hI.out.fr.trans (((Fr.refl _ _).drewN q).trans hf)).size
          obtain ⟨zA, zk, zc, rfl⟩ := ty_list hty
          rw [val_list]
          have HTY := Lib.hid hty
          have HST := Lib.hid hst
          have HFF := Lib.hid hf
          have HTX := Lib.hid htx
          clear hty hst hf htx
          rw [hsz] at hown
          go_wp2_with (at_builtin; refine wpList_pushS w3 rfl _ _ 70 129 rfl Tryz.underlying70 1 24 info_el_l_axiomUse (by decide) (by decide) w.heap.size _ 0 xs [.slice zA zk zc] (by rfl) hown (by rfl) rfl HTY.out.one (by omega) hw3 ?_)
          intro g' cap w4 hown' hg hgb hglt
          rw [← hsz] at hown hown'
          have HI2 := Lib.hid (EInv.next rfl hlt hI.out HN.out ((Fr.refl _ _).drewN q) rfl HTY.out HST.out HFF.out HTX.out hown hown' hg hgb hglt)
          have hsm2 := HI2.out.small
          clear hown' hg hgb hglt hown
          go_wp2
          go_roundw
          case rel => exact ⟨_, _, HI2⟩
          case measure => simp [lenOf]
        · have hkp : decide (0 < n') = true := by simp; omega
          have hn0 : 0 < n' := by omega
          go_wp2_with fail
          refine (rat_any _ br str (some r0) 41 41 rfl hI.out.rst).mono ?_
          rintro e w2 ⟨rfl, q, rfl⟩
          rw [HA.out]
          go_wp2_with fail
          refine (rsign_any _ br str (some r0) 32 32 rfl (hI.out.rst.drewN q)).mono ?_
          rintro e w2 ⟨rfl, hr2, hf2⟩
          have HR2 := Lib.hid hr2
          have HF2 := Lib.hid (((Fr.refl _ _).drewN q).trans hf2)
          clear hr2 hf2
          go_wp2_with fail
          refine (HE.out _ (want 32 (some r0)) ((hI.out.fr).trans HF2.out) HR2.out (fun r hr => hI.out.limit HL.out (by rw [if_neg hn]; exact hr))).mono ?_
          rintro e w3 ⟨v, rfl, hty, hst, hf, htx⟩
          obtain ⟨xs, hown⟩ := hI.out.own hlt (HF2.out.trans hf)
          have hw3 : w.heap.size ≤ w3.heap.size := (hI.out.fr.trans (HF2.out.trans hf)).size
          obtain ⟨zA, zk, zc, rfl⟩ := ty_list hty
          rw [val_list]
          have HTY := Lib.hid hty
          have HST := Lib.hid hst
          have HFF := Lib.hid hf
          have HTX := Lib.hid htx
          clear hty hst hf htx
          rw [hsz] at hown
          go_wp2_with (at_builtin; refine wpList_pushS w3 rfl _ _ 70 129 rfl Tryz.underlying70 1 24 info_el_l_axiomUse (by decide) (by decide) w.heap.size _ n' xs [.slice zA zk zc] (by rfl) hown (by rfl) rfl HTY.out.one (by omega) hw3 ?_)
          intro g' cap w4 hown' hg hgb hglt
          rw [← hsz] at hown hown'
          have HI2 := Lib.hid (EInv.next rfl hlt hI.out HN.out HF2.out (if_neg hn) HTY.out HST.out HFF.out HTX.out hown hown' hg hgb hglt)
          have hsm2 := HI2.out.small
          clear hown' hg hgb hglt hown
          go_wp2
          go_roundw
          case rel => exact ⟨_, _, HI2⟩
          case measure => simp [lenOf]; omega

theorem info_el_linTerm : (Tryz.prog.info? 164).map (fun i => (i.size, i.bytes, i.zero.map fun z => z.cells.size)) = some (2, 16, some 2) := by kernel_rfl

set_option maxHeartbeats 2000000 in
set_option maxRecDepth 100000 in
theorem el_linTerm (L : Nat) (g : FuncId) (fi ca : Array Value) (w : World) (br : Nat) (str : ByteArray) (o : Option (List UInt8)) (h : Rst w br str o) (hL : ∀ r, o = some r → r.length ≤ L) (hel : ElR g (fi ++ ca) linTermS L br str w) :
    Calls Tryz.prog 132 #[.pointer (some ⟨br, 0, none⟩), .func (.func g) fi ca] w (RPost (.list linTermS) br str o w) := by
  obtain ⟨he, hel⟩ := hel
  unfold Enters at he
  have hlt := h.lt
  have hsz : Shape.sz linTermS = 2 := sz_linTerm
  have HR := Lib.hid h
  have HL := Lib.hid hL
  have HE := Lib.hid hel
  clear h hL hel
  go_enter Tryz.func132, Tryz.ntmps132
  go_wp2_with fail
  refine (rsign_any _ br str o 40 40 rfl HR.out).mono ?_
  rintro e w1 ⟨rfl, hr1, hf1⟩
  have I0 := EInv.start (s := linTermS) (e := 164) HR.out hr1 hf1
  have HI0 := Lib.hid I0
  clear I0 hr1 hf1
  go_wp2
  go_loopw [5] (fun lv wr => ∃ (n' : Nat) (o' : Option (List UInt8)), Hid (EInv linTermS 164 br str o w lv n' o' wr)) (fun lv _ => 262146 - lenOf lv)
  case atStart => exact ⟨0, _, HI0⟩
  case round =>
    obtain ⟨n', o', hI⟩ := hrel
    clear HI0
    obtain ⟨A, c, rfl, hnc, hcm⟩ := hI.out.form
    have hsm := hI.out.small
    have c2 := hI.out.rst.cell
    unfold maxLen at hcm
    cases o' with
    | none =>
      go_wp2_with fail
      refine (rsign_any _ br str none 41 41 rfl hI.out.rst).mono ?_
      rintro e w2 ⟨rfl, hr2, hf2⟩
      go_wp2
      go_ret
      exact EInv.last hlt hI.out (.inl rfl) hr2 hf2
    | some r0 =>
      cases ha : isAt 41 (some r0) with
      | true =>
        have HA := Lib.hid ha
        clear ha
        go_wp2_with fail
        refine (rat_any _ br str (some r0) 41 41 rfl hI.out.rst).mono ?_
        rintro e w2 ⟨rfl, q, rfl⟩
        rw [HA.out]
        go_wp2_with fail
        refine (rsign_any _ br str (some r0) 41 41 rfl (hI.out.rst.drewN q)).mono ?_
        rintro e w2 ⟨rfl, hr2, hf2⟩
        go_wp2
        go_ret
        exact EInv.last hlt hI.out ((EInv.at hI.out).1 HA.out) hr2 (((Fr.refl _ _).drewN q).trans hf2)
      | false =>
        have HA := Lib.hid ha
        clear ha
        have hnat := (EInv.at hI.out).2 HA.out r0 rfl
        have HN := Lib.hid hnat
        clear hnat
        by_cases hn : n' = 0
        · subst hn
          go_wp2_with fail
          refine (rat_any _ br str (some r0) 41 41 rfl hI.out.rst).mono ?_
          rintro e w2 ⟨rfl, q, rfl⟩
          rw [HA.out]
          go_wp2_with fail
          refine (HE.out _ (some r0) ((hI.out.fr).drewN q) (hI.out.rst.drewN q) (fun r hr => hI.out.limit HL.out hr)).mono ?_
          rintro e w3 ⟨v, rfl, hty, hst, hf, htx⟩
          obtain ⟨xs, hown⟩ := hI.out.own hlt (((Fr.refl _ _).drewN q).trans hf)
          have hw3 : w.heap.size ≤ w3.heap.size := (hI.out.fr.trans (((Fr.refl _ _).drewN q).trans hf)).size
          obtain ⟨z0n, z1n, rfl⟩ := ty_linTerm hty
          rw [val_linTerm]
          have HTY := Lib.hid hty
          have HST := Lib.hid hst
          have HFF := Lib.hid hf
          have HTX := Lib.hid htx
          clear hty hst hf htx
          rw [hsz] at hown
          go_wp2_with (at_builtin; refine wpList_pushS w3 rfl _ _ 93 164 rfl Tryz.underlying93 2 16 info_el_linTerm (by decide) (by decide) w.heap.size _ 0 xs [.int .i64 z0n, .int .i64 z1n] (by rfl) hown (by rfl) rfl HTY.out.one (by omega) hw3 ?_)
          intro g' cap w4 hown' hg hgb hglt
          rw [← hsz] at hown hown'
          have HI2 := Lib.hid (EInv.next one_linTerm hlt hI.out HN.out ((Fr.refl _ _).drewN q) rfl HTY.out HST.out HFF.out HTX.out hown hown' hg hgb hglt)
          have hsm2 := HI2.out.small
          clear hown' hg hgb hglt hown
          go_wp2
          go_roundw
          case rel => exact ⟨_, _, HI2⟩
          case measure => simp [lenOf]
        · have hkp : decide (0 < n') = true := by simp; omega
          have hn0 : 0 < n' := by omega
          go_wp2_with fail
          refine (rat_any _ br str (some r0) 41 41 rfl hI.out.rst).mono ?_
          rintro e w2 ⟨rfl, q, rfl⟩
          rw [HA.out]
          go_wp2_with fail
          refine (rsign_any _ br str (some r0) 32 32 rfl (hI.out.rst.drewN q)).mono ?_
          rintro e w2 ⟨rfl, hr2, hf2⟩
          have HR2 := Lib.hid hr2
          have HF2 := Lib.hid (((Fr.refl _ _).drewN q).trans hf2)
          clear hr2 hf2
          go_wp2_with fail
          refine (HE.out _ (want 32 (some r0)) ((hI.out.fr).trans HF2.out) HR2.out (fun r hr => hI.out.limit HL.out (by rw [if_neg hn]; exact hr))).mono ?_
          rintro e w3 ⟨v, rfl, hty, hst, hf, htx⟩
          obtain ⟨xs, hown⟩ := hI.out.own hlt (HF2.out.trans hf)
          have hw3 : w.heap.size ≤ w3.heap.size := (hI.out.fr.trans (HF2.out.trans hf)).size
          obtain ⟨z0n, z1n, rfl⟩ := ty_linTerm hty
          rw [val_linTerm]
          have HTY := Lib.hid hty
          have HST := Lib.hid hst
          have HFF := Lib.hid hf
          have HTX := Lib.hid htx
          clear hty hst hf htx
          rw [hsz] at hown
          go_wp2_with (at_builtin; refine wpList_pushS w3 rfl _ _ 93 164 rfl Tryz.underlying93 2 16 info_el_linTerm (by decide) (by decide) w.heap.size _ n' xs [.int .i64 z0n, .int .i64 z1n] (by rfl) hown (by rfl) rfl HTY.out.one (by omega) hw3 ?_)
          intro g' cap w4 hown' hg hgb hglt
          rw [← hsz] at hown hown'
          have HI2 := Lib.hid (EInv.next one_linTerm hlt hI.out HN.out HF2.out (if_neg hn) HTY.out HST.out HFF.out HTX.out hown hown' hg hgb hglt)
          have hsm2 := HI2.out.small
          clear hown' hg hgb hglt hown
          go_wp2
          go_roundw
          case rel => exact ⟨_, _, HI2⟩
          case measure => simp [lenOf]; omega

theorem info_el_lin : (Tryz.prog.info? 95).map (fun i => (i.size, i.bytes, i.zero.map fun z => z.cells.size)) = some (2, 32, some 2) := by kernel_rfl

set_option maxHeartbeats 2000000 in
set_option maxRecDepth 100000 in
theorem el_lin (L : Nat) (g : FuncId) (fi ca : Array Value) (w : World) (br : Nat) (str : ByteArray) (o : Option (List UInt8)) (h : Rst w br str o) (hL : ∀ r, o = some r → r.length ≤ L) (hel : ElR g (fi ++ ca) linS L br str w) :
    Calls Tryz.prog 50 #[.pointer (some ⟨br, 0, none⟩), .func (.func g) fi ca] w (RPost (.list linS) br str o w) := by
  obtain ⟨he, hel⟩ := hel
  unfold Enters at he
  have hlt := h.lt
  have hsz : Shape.sz linS = 2 := sz_lin
  have HR := Lib.hid h
  have HL := Lib.hid hL
  have HE := Lib.hid hel
  clear h hL hel
  go_enter Tryz.func50, Tryz.ntmps50
  go_wp2_with fail
  refine (rsign_any _ br str o 40 40 rfl HR.out).mono ?_
  rintro e w1 ⟨rfl, hr1, hf1⟩
  have I0 := EInv.start (s := linS) (e := 95) HR.out hr1 hf1
  have HI0 := Lib.hid I0
  clear I0 hr1 hf1
  go_wp2
  go_loopw [5] (fun lv wr => ∃ (n' : Nat) (o' : Option (List UInt8)), Hid (EInv linS 95 br str o w lv n' o' wr)) (fun lv _ => 262146 - lenOf lv)
  case atStart => exact ⟨0, _, HI0⟩
  case round =>
    obtain ⟨n', o', hI⟩ := hrel
    clear HI0
    obtain ⟨A, c, rfl, hnc, hcm⟩ := hI.out.form
    have hsm := hI.out.small
    have c2 := hI.out.rst.cell
    unfold maxLen at hcm
    cases o' with
    | none =>
      go_wp2_with fail
      refine (rsign_any _ br str none 41 41 rfl hI.out.rst).mono ?_
      rintro e w2 ⟨rfl, hr2, hf2⟩
      go_wp2
      go_ret
      exact EInv.last hlt hI.out (.inl rfl) hr2 hf2
    | some r0 =>
      cases ha : isAt 41 (some r0) with
      | true =>
        have HA := Lib.hid ha
        clear ha
        go_wp2_with fail
        refine (rat_any _ br str (some r0) 41 41 rfl hI.out.rst).mono ?_
        rintro e w2 ⟨rfl, q, rfl⟩
        rw [HA.out]
        go_wp2_with fail
        refine (rsign_any _ br str (some r0) 41 41 rfl (hI.out.rst.drewN q)).mono ?_
        rintro e w2 ⟨rfl, hr2, hf2⟩
        go_wp2
        go_ret
        exact EInv.last hlt hI.out ((EInv.at hI.out).1 HA.out) hr2 (((Fr.refl _ _).drewN q).trans hf2)
      | false =>
        have HA := Lib.hid ha
        clear ha
        have hnat := (EInv.at hI.out).2 HA.out r0 rfl
        have HN := Lib.hid hnat
        clear hnat
        by_cases hn : n' = 0
        · subst hn
          go_wp2_with fail
          refine (rat_any _ br str (some r0) 41 41 rfl hI.out.rst).mono ?_
          rintro e w2 ⟨rfl, q, rfl⟩
          rw [HA.out]
          go_wp2_with fail
          refine (HE.out _ (some r0) ((hI.out.fr).drewN q) (hI.out.rst.drewN q) (fun r hr => hI.out.limit HL.out hr)).mono ?_
          rintro e w3 ⟨v, rfl, hty, hst, hf, htx⟩
          obtain ⟨xs, hown⟩ := hI.out.own hlt (((Fr.refl _ _).drewN q).trans hf)
          have hw3 : w.heap.size ≤ w3.heap.size := (hI.out.fr.trans (((Fr.refl _ _).drewN q).trans hf)).size
          obtain ⟨z0n, z1A, z1k, z1c, rfl⟩ := ty_lin hty
          rw [val_lin]
          have HTY := Lib.hid hty
          have HST := Lib.hid hst
          have HFF := Lib.hid hf
          have HTX := Lib.hid htx
          clear hty hst hf htx
          rw [hsz] at hown
          go_wp2_with (at_builtin; refine wpList_pushS w3 rfl _ _ 59 95 rfl Tryz.underlying59 2 32 info_el_lin (by decide) (by decide) w.heap.size _ 0 xs [.int .i64 z0n, .slice z1A z1k z1c] (by rfl) hown (by rfl) rfl HTY.out.one (by omega) hw3 ?_)
          intro g' cap w4 hown' hg hgb hglt
          rw [← hsz] at hown hown'
          have HI2 := Lib.hid (EInv.next one_lin hlt hI.out HN.out ((Fr.refl _ _).drewN q) rfl HTY.out HST.out HFF.out HTX.out hown hown' hg hgb hglt)
          have hsm2 := HI2.out.small
          clear hown' hg hgb hglt hown
          go_wp2
          go_roundw
          case rel => exact ⟨_, _, HI2⟩
          case measure => simp [lenOf]
        · have hkp : decide (0 < n') = true := by simp; omega
          have hn0 : 0 < n' := by omega
          go_wp2_with fail
          refine (rat_any _ br str (some r0) 41 41 rfl hI.out.rst).mono ?_
          rintro e w2 ⟨rfl, q, rfl⟩
          rw [HA.out]
          go_wp2_with fail
          refine (rsign_any _ br str (some r0) 32 32 rfl (hI.out.rst.drewN q)).mono ?_
          rintro e w2 ⟨rfl, hr2, hf2⟩
          have HR2 := Lib.hid hr2
          have HF2 := Lib.hid (((Fr.refl _ _).drewN q).trans hf2)
          clear hr2 hf2
          go_wp2_with fail
          refine (HE.out _ (want 32 (some r0)) ((hI.out.fr).trans HF2.out) HR2.out (fun r hr => hI.out.limit HL.out (by rw [if_neg hn]; exact hr))).mono ?_
          rintro e w3 ⟨v, rfl, hty, hst, hf, htx⟩
          obtain ⟨xs, hown⟩ := hI.out.own hlt (HF2.out.trans hf)
          have hw3 : w.heap.size ≤ w3.heap.size := (hI.out.fr.trans (HF2.out.trans hf)).size
          obtain ⟨z0n, z1A, z1k, z1c, rfl⟩ := ty_lin hty
          rw [val_lin]
          have HTY := Lib.hid hty
          have HST := Lib.hid hst
          have HFF := Lib.hid hf
          have HTX := Lib.hid htx
          clear hty hst hf htx
          rw [hsz] at hown
          go_wp2_with (at_builtin; refine wpList_pushS w3 rfl _ _ 59 95 rfl Tryz.underlying59 2 32 info_el_lin (by decide) (by decide) w.heap.size _ n' xs [.int .i64 z0n, .slice z1A z1k z1c] (by rfl) hown (by rfl) rfl HTY.out.one (by omega) hw3 ?_)
          intro g' cap w4 hown' hg hgb hglt
          rw [← hsz] at hown hown'
          have HI2 := Lib.hid (EInv.next one_lin hlt hI.out HN.out HF2.out (if_neg hn) HTY.out HST.out HFF.out HTX.out hown hown' hg hgb hglt)
          have hsm2 := HI2.out.small
          clear hown' hg hgb hglt hown
          go_wp2
          go_roundw
          case rel => exact ⟨_, _, HI2⟩
          case measure => simp [lenOf]; omega

theorem info_el_relation : (Tryz.prog.info? 61).map (fun i => (i.size, i.bytes, i.zero.map fun z => z.cells.size)) = some (2, 48, some 2) := by kernel_rfl

set_option maxHeartbeats 2000000 in
set_option maxRecDepth 100000 in
theorem el_relation (L : Nat) (g : FuncId) (fi ca : Array Value) (w : World) (br : Nat) (str : ByteArray) (o : Option (List UInt8)) (h : Rst w br str o) (hL : ∀ r, o = some r → r.length ≤ L) (hel : ElR g (fi ++ ca) relationS L br str w) :
    Calls Tryz.prog 17 #[.pointer (some ⟨br, 0, none⟩), .func (.func g) fi ca] w (RPost (.list relationS) br str o w) := by
  obtain ⟨he, hel⟩ := hel
  unfold Enters at he
  have hlt := h.lt
  have hsz : Shape.sz relationS = 2 := sz_relation
  have HR := Lib.hid h
  have HL := Lib.hid hL
  have HE := Lib.hid hel
  clear h hL hel
  go_enter Tryz.func17, Tryz.ntmps17
  go_wp2_with fail
  refine (rsign_any _ br str o 40 40 rfl HR.out).mono ?_
  rintro e w1 ⟨rfl, hr1, hf1⟩
  have I0 := EInv.start (s := relationS) (e := 61) HR.out hr1 hf1
  have HI0 := Lib.hid I0
  clear I0 hr1 hf1
  go_wp2
  go_loopw [5] (fun lv wr => ∃ (n' : Nat) (o' : Option (List UInt8)), Hid (EInv relationS 61 br str o w lv n' o' wr)) (fun lv _ => 262146 - lenOf lv)
  case atStart => exact ⟨0, _, HI0⟩
  case round =>
    obtain ⟨n', o', hI⟩ := hrel
    clear HI0
    obtain ⟨A, c, rfl, hnc, hcm⟩ := hI.out.form
    have hsm := hI.out.small
    have c2 := hI.out.rst.cell
    unfold maxLen at hcm
    cases o' with
    | none =>
      go_wp2_with fail
      refine (rsign_any _ br str none 41 41 rfl hI.out.rst).mono ?_
      rintro e w2 ⟨rfl, hr2, hf2⟩
      go_wp2
      go_ret
      exact EInv.last hlt hI.out (.inl rfl) hr2 hf2
    | some r0 =>
      cases ha : isAt 41 (some r0) with
      | true =>
        have HA := Lib.hid ha
        clear ha
        go_wp2_with fail
        refine (rat_any _ br str (some r0) 41 41 rfl hI.out.rst).mono ?_
        rintro e w2 ⟨rfl, q, rfl⟩
        rw [HA.out]
        go_wp2_with fail
        refine (rsign_any _ br str (some r0) 41 41 rfl (hI.out.rst.drewN q)).mono ?_
        rintro e w2 ⟨rfl, hr2, hf2⟩
        go_wp2
        go_ret
        exact EInv.last hlt hI.out ((EInv.at hI.out).1 HA.out) hr2 (((Fr.refl _ _).drewN q).trans hf2)
      | false =>
        have HA := Lib.hid ha
        clear ha
        have hnat := (EInv.at hI.out).2 HA.out r0 rfl
        have HN := Lib.hid hnat
        clear hnat
        by_cases hn : n' = 0
        · subst hn
          go_wp2_with fail
          refine (rat_any _ br str (some r0) 41 41 rfl hI.out.rst).mono ?_
          rintro e w2 ⟨rfl, q, rfl⟩
          rw [HA.out]
          go_wp2_with fail
          refine (HE.out _ (some r0) ((hI.out.fr).drewN q) (hI.out.rst.drewN q) (fun r hr => hI.out.limit HL.out hr)).mono ?_
          rintro e w3 ⟨v, rfl, hty, hst, hf, htx⟩
          obtain ⟨xs, hown⟩ := hI.out.own hlt (((Fr.refl _ _).drewN q).trans hf)
          have hw3 : w.heap.size ≤ w3.heap.size := (hI.out.fr.trans (((Fr.refl _ _).drewN q).trans hf)).size
          obtain ⟨z0A, z0k, z0c, z1A, z1k, z1c, rfl⟩ := ty_relation hty
          rw [val_relation]
          have HTY := Lib.hid hty
          have HST := Lib.hid hst
          have HFF := Lib.hid hf
          have HTX := Lib.hid htx
          clear hty hst hf htx
          rw [hsz] at hown
          go_wp2_with (at_builtin; refine wpList_pushS w3 rfl _ _ 26 61 rfl Tryz.underlying26 2 48 info_el_relation (by decide) (by decide) w.heap.size _ 0 xs [.slice z0A z0k z0c, .slice z1A z1k z1c] (by rfl) hown (by rfl) rfl HTY.out.one (by omega) hw3 ?_)
          intro g' cap w4 hown' hg hgb hglt
          rw [← hsz] at hown hown'
          have HI2 := Lib.hid (EInv.next one_relation hlt hI.out HN.out ((Fr.refl _ _).drewN q) rfl HTY.out HST.out HFF.out HTX.out hown hown' hg hgb hglt)
          have hsm2 := HI2.out.small
          clear hown' hg hgb hglt hown
          go_wp2
          go_roundw
          case rel => exact ⟨_, _, HI2⟩
          case measure => simp [lenOf]
        · have hkp : decide (0 < n') = true := by simp; omega
          have hn0 : 0 < n' := by omega
          go_wp2_with fail
          refine (rat_any _ br str (some r0) 41 41 rfl hI.out.rst).mono ?_
          rintro e w2 ⟨rfl, q, rfl⟩
          rw [HA.out]
          go_wp2_with fail
          refine (rsign_any _ br str (some r0) 32 32 rfl (hI.out.rst.drewN q)).mono ?_
          rintro e w2 ⟨rfl, hr2, hf2⟩
          have HR2 := Lib.hid hr2
          have HF2 := Lib.hid (((Fr.refl _ _).drewN q).trans hf2)
          clear hr2 hf2
          go_wp2_with fail
          refine (HE.out _ (want 32 (some r0)) ((hI.out.fr).trans HF2.out) HR2.out (fun r hr => hI.out.limit HL.out (by rw [if_neg hn]; exact hr))).mono ?_
          rintro e w3 ⟨v, rfl, hty, hst, hf, htx⟩
          obtain ⟨xs, hown⟩ := hI.out.own hlt (HF2.out.trans hf)
          have hw3 : w.heap.size ≤ w3.heap.size := (hI.out.fr.trans (HF2.out.trans hf)).size
          obtain ⟨z0A, z0k, z0c, z1A, z1k, z1c, rfl⟩ := ty_relation hty
          rw [val_relation]
          have HTY := Lib.hid hty
          have HST := Lib.hid hst
          have HFF := Lib.hid hf
          have HTX := Lib.hid htx
          clear hty hst hf htx
          rw [hsz] at hown
          go_wp2_with (at_builtin; refine wpList_pushS w3 rfl _ _ 26 61 rfl Tryz.underlying26 2 48 info_el_relation (by decide) (by decide) w.heap.size _ n' xs [.slice z0A z0k z0c, .slice z1A z1k z1c] (by rfl) hown (by rfl) rfl HTY.out.one (by omega) hw3 ?_)
          intro g' cap w4 hown' hg hgb hglt
          rw [← hsz] at hown hown'
          have HI2 := Lib.hid (EInv.next one_relation hlt hI.out HN.out HF2.out (if_neg hn) HTY.out HST.out HFF.out HTX.out hown hown' hg hgb hglt)
          have hsm2 := HI2.out.small
          clear hown' hg hgb hglt hown
          go_wp2
          go_roundw
          case rel => exact ⟨_, _, HI2⟩
          case measure => simp [lenOf]; omega

end Go.Proofs.YtdbglgjphfkonaaGreatDoor

