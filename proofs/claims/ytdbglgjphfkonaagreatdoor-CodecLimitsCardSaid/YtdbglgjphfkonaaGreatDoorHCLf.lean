/-
  The reader: words, booleans, integers.
-/
import Derived.Test.YtdbglgjphfkonaaGreatDoorHCIx
import Derived.Test.YtdbglgjphfkonaaGreatDoorHCRa
import Derived.Lib.ParseIntBTie
import Derived.Lib.AtoiErrMem
import Derived.Lib.AppendIntMem
import Derived.Shelf.Strconv.Itoa3
namespace Go.Proofs.YtdbglgjphfkonaaGreatDoor
open Go.RowKit AC
set_option linter.unusedVariables false
set_option linter.unusedSimpArgs false

def wordO : Option (List UInt8) → List UInt8
  | some r => wordOf r
  | none => []
def WdPost (br : Nat) (str : ByteArray) (o : Option (List UInt8)) (w : World) (e : Ending) (w' : World) : Prop :=
  e = .returned (.string ⟨(wordO o).toArray⟩) ∧ Rst w' br str (o.map restOf) ∧ Fr (· = br) w w'

theorem extract_drop (s : ByteArray) (pos : Nat) : (s.extract pos s.size).data.toList = s.data.toList.drop pos := Lib.extract_to_end s pos
theorem wordO_len {s : ByteArray} {pos : Nat} (h : pos ≤ s.size) : (wordOf (s.data.toList.drop pos)).length ≤ s.size - pos := by
  have := restOf_len (s.data.toList.drop pos)
  simp at this
  omega
theorem restOf_drop (l : List UInt8) : restOf l = l.drop (wordOf l).length := by
  have h : ∀ a b : List UInt8, a ++ b = l → b = l.drop a.length := fun a b h => by rw [← h]; simp
  exact h _ _ (word_rest l)
theorem wordOf_take (l : List UInt8) : wordOf l = l.take (wordOf l).length := by
  have h : ∀ a b : List UInt8, a ++ b = l → a = l.take a.length := fun a b h => by rw [← h]; simp
  exact h _ _ (word_rest l)
theorem wd_post {w w1 : World} {br pos k : Nat} {str t : ByteArray} {r : List UInt8} {p : Int} (hk : Bk w br 46 #[.string str, .int .i64 pos, .bool false]) (hgl : Gl w) (hgn : GN ≤ br) (h2 : str.size ≤ 262144) (hb : Below w.heap.size w w1)
    (hr : str.data.toList.drop pos = r) (hrest : restOf r = str.data.toList.drop (pos + k)) (hle : pos + k ≤ str.size) (ht : t.data.toList = wordOf r) (hp : p = ((pos + k : Nat) : Int)) :
    WdPost br str (some (str.data.toList.drop pos)) w (.returned (.string t)) (w1.setCell ⟨br, 1, none⟩ (.int .i64 p)) := by
  have et : t = ⟨(wordOf r).toArray⟩ := by rw [← ht]
  rw [hr]
  refine ⟨by rw [et]; rfl, ⟨pos + k, false, ?_, hle, h2, ?_, (hgl.below hb).set hgn _ _, hgn⟩, ((Fr.refl _ _).below hb).wr _ _⟩
  · rw [hp]; exact (hk.below hb hk.lt).set 1 _
  · show some (restOf r) = _
    rw [hrest]
    rfl

set_option maxHeartbeats 2000000 in
theorem word_any (w : World) (br : Nat) (str : ByteArray) (o : Option (List UInt8)) (h : Rst w br str o) : Calls Tryz.prog 44 #[.pointer (some ⟨br, 0, none⟩)] w (WdPost br str o w) := by
  have HR := Lib.hid h
  have hlt := h.lt
  obtain ⟨pos, bad, hk, h1, h2, rfl, hgl, hgn⟩ := h
  have c0 := hk.cell 0
  have c1 := hk.cell 1
  have c2 := hk.cell 2
  have f1 := hk.frozen 1
  simp only [List.getElem?_toArray, List.getElem?_cons_zero, List.getElem?_cons_succ] at c0 c1 c2
  have HK := Lib.hid hk
  have HG := Lib.hid hgl
  clear hk hgl
  cases bad with
  | true =>
    go_enter Tryz.func44, Tryz.ntmps44
    go_wp2
    go_ret
    exact ⟨rfl, HR.out, Fr.refl _ _⟩
  | false =>
    obtain ⟨r, hr⟩ : ∃ r, str.data.toList.drop pos = r := ⟨_, rfl⟩
    obtain ⟨k, hkk⟩ : ∃ k, (wordOf r).length = k := ⟨_, rfl⟩
    have hle : k ≤ str.size - pos := by rw [← hkk, ← hr]; exact wordO_len h1
    have hrl : r.length = str.size - pos := by rw [← hr]; simp
    have hex : (str.extract pos str.size).data.toList = r := (extract_drop str pos).trans hr
    have hexs : (str.extract pos str.size).size = str.size - pos := by simp
    have hans : Lib.indexAny r stops = if k = str.size - pos then -1 else (k : Int) := by rw [indexAny_word, hkk, hrl]
    have hrest : restOf r = str.data.toList.drop (pos + k) := by rw [restOf_drop, hkk, ← hr, List.drop_drop]
    have HX := Lib.hid hex
    have HXS := Lib.hid hexs
    have HA := Lib.hid hans
    have HT := Lib.hid hrest
    have HKK := Lib.hid hkk
    have HRL := Lib.hid hrl
    have HRR := Lib.hid hr
    clear hex hans hrest hkk hr hrl hexs
    have p1 : decide (pos ≤ str.size) = true := by simp; omega
    by_cases hall : k = str.size - pos
    · have HALL := Lib.hid hall
      clear hall
      have hv : Lib.indexAny r stops = -1 := by rw [HA.out, if_pos HALL.out]
      have hw : wordOf r = r := by
        have h3 := restOf_len r
        have h4 := word_rest r
        have : (restOf r).length = 0 := by rw [HKK.out, HALL.out, HRL.out] at h3; omega
        rw [List.length_eq_zero_iff.1 this, List.append_nil] at h4
        exact h4
      have HV := Lib.hid hv
      have HW := Lib.hid hw
      clear hv hw
      go_enter Tryz.func44, Tryz.ntmps44
      go_wp2
      go_quiet (fail)
      go_wp2_with fail
      refine (indexAny_any _ _ (by rw [HXS.out]; omega)).mono ?_
      rintro e w1 ⟨rfl, hb⟩
      rw [HX.out, HV.out]
      have d1 := (hb.cell (p := ⟨br, 1, none⟩) hlt).trans c1
      have g1 := (hb.frozen (p := ⟨br, 1, none⟩) hlt).trans f1
      have HB := Lib.hid hb
      clear hb
      go_wp2
      go_ret
      exact wd_post (k := k) HK.out HG.out hgn h2 (((Below.refl _ w).drewN nq).trans HB.out) HRR.out HT.out (by omega) (HX.out.trans HW.out.symm) (by have := HALL.out; omega)
    · have hv : Lib.indexAny r stops = (k : Int) := by rw [HA.out, if_neg hall]
      have HV := Lib.hid hv
      clear hv
      have hkb : k ≤ 262144 := by omega
      have p2 : decide (k ≤ str.size - pos) = true := by simp; omega
      go_enter Tryz.func44, Tryz.ntmps44
      go_wp2
      go_quiet (fail)
      go_wp2_with fail
      refine (indexAny_any _ _ (by rw [HXS.out]; omega)).mono ?_
      rintro e w1 ⟨rfl, hb⟩
      rw [HX.out, HV.out]
      have d1 := (hb.cell (p := ⟨br, 1, none⟩) hlt).trans c1
      have g1 := (hb.frozen (p := ⟨br, 1, none⟩) hlt).trans f1
      have HB := Lib.hid hb
      clear hb
      go_wp2
      go_ret
      refine wd_post (k := k) HK.out HG.out hgn h2 (((Below.refl _ w).drewN nq).trans HB.out) HRR.out HT.out (by omega) ?_ (by first | omega | (simp; omega))
      have hx2 : ((str.extract pos str.size).extract 0 k).data.toList = ((str.extract pos str.size).data.toList).take k := by rw [Lib.extract_data]; simp
      rw [hx2, HX.out]
      rw [← HKK.out]
      exact (wordOf_take r).symm

theorem rdWord_o (ok : List UInt8 → Bool) (h0 : ok [] = false) (o : Option (List UInt8)) : rdWord ok o = if ok (wordO o) then o.map restOf else none := by
  cases o with
  | none => show none = _; rw [show wordO none = [] from rfl, h0]; rfl
  | some r => rfl
theorem rdWord_yes {ok : List UInt8 → Bool} {o : Option (List UInt8)} (h0 : ok [] = false) (h : ok (wordO o) = true) : rdWord ok o = o.map restOf := by rw [rdWord_o ok h0, h]; rfl
theorem rdWord_not {ok : List UInt8 → Bool} {o : Option (List UInt8)} (h0 : ok [] = false) (h : ok (wordO o) = false) : rdWord ok o = none := by rw [rdWord_o ok h0, h]; rfl
theorem rdWord_text {ok : List UInt8 → Bool} {o : Option (List UInt8)} {r r' : List UInt8} (ho : o = some r) (h : o.map restOf = some r') : r = wordO o ++ r' := by
  subst ho
  injection h with h
  rw [← h]
  exact (word_rest r).symm

set_option maxHeartbeats 2000000 in
theorem reads_boolean (L : Nat) : Reads 13 .bool L := by
  intro w br str o hr hl
  have HR := Lib.hid hr
  clear hr hl
  obtain ⟨l, hl⟩ : ∃ l, wordO o = l := ⟨_, rfl⟩
  have HL := Lib.hid hl
  clear hl
  go_enter Tryz.func13, Tryz.ntmps13
  go_wp2_with fail
  refine (word_any _ br str o HR.out).mono ?_
  rintro e w1 ⟨rfl, hst, hf⟩
  rw [HL.out]
  have HST := Lib.hid hst
  have HF := Lib.hid hf
  have c2 := hst.cell
  have f2 := hst.frozen 2
  clear hst hf
  by_cases h0 : l = [48]
  · subst h0
    go_wp2
    go_ret
    have hok : okBool (wordO o) = true := by rw [HL.out]; rfl
    refine ⟨[.bool false], rfl, ⟨false, rfl⟩, ?_, HF.out, fun r r' ho hr' => ?_⟩
    · show Rst _ _ _ (rdWord okBool o); rw [rdWord_yes rfl hok]; exact HST.out
    · have hr2 : rdWord okBool o = some r' := hr'
      rw [rdWord_yes rfl hok] at hr2
      exact ⟨_, rdWord_text (ok := okBool) ho hr2, false, rfl, by rw [HL.out]; rfl⟩
  · by_cases h1 : l = [49]
    · subst h1
      go_wp2
      go_ret
      have hok : okBool (wordO o) = true := by rw [HL.out]; rfl
      refine ⟨[.bool true], rfl, ⟨true, rfl⟩, ?_, HF.out, fun r r' ho hr' => ?_⟩
      · show Rst _ _ _ (rdWord okBool o); rw [rdWord_yes rfl hok]; exact HST.out
      · have hr2 : rdWord okBool o = some r' := hr'
        rw [rdWord_yes rfl hok] at hr2
        exact ⟨_, rdWord_text (ok := okBool) ho hr2, true, rfl, by rw [HL.out]; rfl⟩
    · have e0 : (l == [48]) = false := by simpa using h0
      have e1 : (l == [49]) = false := by simpa using h1
      clear h0 h1
      go_wp2
      go_ret
      have hok : okBool (wordO o) = false := by rw [HL.out]; unfold okBool; rw [e0, e1]; rfl
      have hno : rd .bool 0 o = none := rdWord_not rfl hok
      refine ⟨[.bool false], ?_, ⟨false, rfl⟩, ?_, HF.out.wr _ _, fun r r' ho hr' => ?_⟩
      · rfl
      · rw [hno]; exact HST.out.spoil
      · rw [hno] at hr'; cases hr'

end Go.Proofs.YtdbglgjphfkonaaGreatDoor

/-
  The reader and the writer: integers.
-/
namespace Go.Proofs.YtdbglgjphfkonaaGreatDoor
open Go.RowKit AC
set_option linter.unusedVariables false
set_option linter.unusedSimpArgs false

def FmtPost (l : List UInt8) (w : World) (e : Ending) (w' : World) : Prop := e = .returned (.string ⟨l.toArray⟩) ∧ Below w.heap.size w w'
theorem formatInt_any (w : World) (n : Int) (h0 : -9223372036854775808 ≤ n) (h1 : n ≤ 9223372036854775807) (hg : Gl w) : Calls Tryz.prog 194 #[.int .i64 n, .int .i64 10] w (FmtPost (Lib.itoa n) w) :=
  (Tryz.strconv_FormatInt_10 n h0 h1 w hg.1).mono fun e w' ⟨he, k, os, hw⟩ => ⟨he, by rw [hw]; exact Lib.below_grow _ _ (Nat.le_refl _) k os⟩
theorem itoa_any (w : World) (n : Int) (h0 : -9223372036854775808 ≤ n) (h1 : n ≤ 9223372036854775807) (hg : Gl w) : Calls Tryz.prog 169 #[.int .i64 n] w (FmtPost (Lib.itoa n) w) :=
  (Tryz.strconv_Itoa n h0 h1 w hg.1).mono fun e w' ⟨he, k, os, hw⟩ => ⟨he, by rw [hw]; exact Lib.below_grow _ _ (Nat.le_refl _) k os⟩
/-- A number, or an error. -/
def PIPost (l : List UInt8) (w : World) (e : Ending) (w' : World) : Prop :=
  (∃ v, Lib.parseIntB 64 l = .ok v ∧ e = .returned (.tuple #[.int .i64 v, .nilIface]) ∧ Below w.heap.size w w') ∨
  (∃ z T p, (∀ v, Lib.parseIntB 64 l ≠ .ok v) ∧ e = .returned (.tuple #[.int .i64 z, .iface T p]) ∧ Below w.heap.size w w')
theorem parseInt_any (w : World) (s : ByteArray) (hs : s.size ≤ 262144) (hg : Gl w) : Calls Tryz.prog 193 #[.string s, .int .i64 10, .int .i64 64] w (PIPost s.data.toList w) := by
  obtain ⟨_, ⟨tp, p, h2⟩, ⟨tp', p', h3⟩, _⟩ := hg
  rcases h : Lib.parseIntB 64 s.data.toList with v | _ | _
  · refine (Tryz.strconv_ParseInt_10_at64_ok s (by omega) v h w).mono fun e w' ⟨he, hw⟩ => .inl ⟨v, h, he, ?_⟩
    rcases hw with rfl | ⟨t, rfl⟩
    · exact Below.refl _ _
    · exact Lib.bytesWorld_below _ _ _
  · refine (Tryz.strconv_ParseInt_10_at64_syntax_var s (by omega) h tp p w h2).mono fun e w' ⟨N, he, _, _, hb⟩ => .inr ⟨_, _, _, fun v => by rw [h]; simp, he, hb⟩
  · refine (Tryz.strconv_ParseInt_10_at64_range_var s (by omega) h tp' p' w h3).mono fun e w' ⟨N, he, _, _, hb⟩ => .inr ⟨_, _, _, fun v => by rw [h]; simp, he, hb⟩

theorem okInt_of {l : List UInt8} {v : Int} (h : Lib.parseIntB 64 l = .ok v) : okInt l = (Lib.itoa v == l) := by unfold okInt; rw [h]
theorem okInt_not {l : List UInt8} (h : ∀ v, Lib.parseIntB 64 l ≠ .ok v) : okInt l = false := by
  unfold okInt
  cases h2 : Lib.parseIntB 64 l with
  | ok v => exact absurd h2 (h v)
  | _ => rfl
theorem wordO_size {w : World} {br : Nat} {str : ByteArray} {o : Option (List UInt8)} (h : Rst w br str o) : (wordO o).length ≤ 262144 := by
  cases o with
  | none => simp [wordO]
  | some r => have := h.short; have := restOf_len r; simp only [wordO]; omega

set_option maxHeartbeats 2000000 in
theorem reads_long (L : Nat) : Reads 129 .int L := by
  intro w br str o hr hl
  have HR := Lib.hid hr
  have hsz := wordO_size hr
  clear hr hl
  obtain ⟨l, hl⟩ : ∃ l, wordO o = l := ⟨_, rfl⟩
  rw [hl] at hsz
  have HL := Lib.hid hl
  clear hl
  go_enter Tryz.func129, Tryz.ntmps129
  go_wp2_with fail
  refine (word_any _ br str o HR.out).mono ?_
  rintro e w1 ⟨rfl, hst, hf⟩
  rw [HL.out]
  have HST := Lib.hid hst
  have HF := Lib.hid hf
  have HG := Lib.hid hst.gl.1
  clear hst hf
  go_wp2_with fail
  refine (parseInt_any _ _ (by show l.toArray.size ≤ _; simpa using hsz) HG.out).mono ?_
  rintro e w2 (⟨v, hv, rfl, hb⟩ | ⟨z, T, p, hv, rfl, hb⟩)
  · have hbd := Lib.parseIntB_bounds hv
    have b0 : -9223372036854775808 ≤ v := by have := hbd.1; simp at this; omega
    have b1 : v ≤ 9223372036854775807 := by have := hbd.2; simp at this; omega
    have hok := okInt_of hv
    have HST2 := Lib.hid (HST.out.below hb)
    have HF2 := Lib.hid (HF.out.below hb)
    have HOK := Lib.hid hok
    have HG2 := Lib.hid (HG.out.below hb)
    clear hv hbd hok hb
    go_wp2_with fail
    refine (formatInt_any _ v b0 b1 HG2.out).mono ?_
    rintro e w3 ⟨rfl, hb⟩
    have HST3 := Lib.hid (HST2.out.below hb)
    have HF3 := Lib.hid (HF2.out.below hb)
    have c2 := HST3.out.cell
    have f2 := HST3.out.frozen 2
    clear hb
    by_cases hq : Lib.itoa v = l
    · have e0 : (Lib.itoa v == l) = true := by simpa using hq
      have e1 : (Lib.itoa v != l) = false := by simp [hq]
      have HQ := Lib.hid hq
      clear hq
      go_wp2
      go_ret
      have hok : okInt (wordO o) = true := by rw [HL.out, HOK.out]; exact e0
      refine ⟨[.int .i64 v], rfl, ⟨v, rfl, b0, b1⟩, ?_, HF3.out, fun r r' ho hr' => ?_⟩
      · show Rst _ _ _ (rdWord okInt o); rw [rdWord_yes rfl hok]; exact HST3.out
      · have hr2 : rdWord okInt o = some r' := hr'
        rw [rdWord_yes rfl hok] at hr2
        exact ⟨_, rdWord_text (ok := okInt) ho hr2, v, rfl, b0, b1, by rw [HL.out, HQ.out]⟩
    · have e0 : (Lib.itoa v == l) = false := by simpa using hq
      have e1 : (Lib.itoa v != l) = true := by simp [hq]
      clear hq
      go_wp2
      go_ret
      have hok : okInt (wordO o) = false := by rw [HL.out, HOK.out]; exact e0
      have hno : rd .int 0 o = none := rdWord_not rfl hok
      refine ⟨[.int .i64 0], rfl, ⟨0, rfl, by omega, by omega⟩, ?_, HF3.out.wr _ _, fun r r' ho hr' => ?_⟩
      · rw [hno]; exact HST3.out.spoil
      · rw [hno] at hr'; cases hr'
  · have hok : okInt (wordO o) = false := by rw [HL.out]; exact okInt_not hv
    have HNO := Lib.hid (rdWord_not (ok := okInt) rfl hok)
    have HST2 := Lib.hid (HST.out.below hb)
    have HF2 := Lib.hid (HF.out.below hb)
    have c2 := HST2.out.cell
    have f2 := HST2.out.frozen 2
    clear hv hok hb
    go_wp2
    go_ret
    refine ⟨[.int .i64 0], rfl, ⟨0, rfl, by omega, by omega⟩, ?_, HF2.out.wr _ _, fun r r' ho hr' => ?_⟩
    · show Rst _ _ _ (rdWord okInt o); rw [HNO.out]; exact HST2.out.spoil
    · have hr2 : rdWord okInt o = some r' := hr'
      rw [HNO.out] at hr2; cases hr2

set_option maxHeartbeats 2000000 in
theorem reads_integer (L : Nat) : Reads 61 .int L := by
  intro w br str o hr hl
  have HR := Lib.hid hr
  have HL := Lib.hid hl
  clear hr hl
  go_enter Tryz.func61, Tryz.ntmps61
  go_wp2_with fail
  refine (reads_long L _ br str o HR.out HL.out).mono ?_
  rintro e w1 ⟨v, rfl, hp⟩
  have hty := hp.1
  obtain ⟨zn, rfl⟩ := ty_int hty
  rw [val_int]
  have HP := Lib.hid hp
  clear hp hty
  go_wp2
  go_ret
  exact ⟨_, rfl, HP.out⟩

end Go.Proofs.YtdbglgjphfkonaaGreatDoor

/-
  strconv.FormatUint at base 10.
-/
namespace Go.Proofs.YtdbglgjphfkonaaGreatDoor
open Go.RowKit AC Go.Sort
set_option linter.unusedVariables false
set_option linter.unusedSimpArgs false

set_option maxHeartbeats 4000000 in
set_option maxRecDepth 100000 in
theorem iformatUint_any (w : World) (u : Nat) (hu64 : u < 18446744073709551616) (hg : Gl w) : Calls Tryz.prog 305 #[.int .u64 u, .int .i64 10] w (FmtPost (Lib.decDigits u) w) := by
  have htab := hg.1
  by_cases hs : u < 100
  · go_enter Tryz.func305, Tryz.ntmps305
    go_wp2_with (go_at_call 269; refine (Tryz.internal_strconv_small u hs _).mono ?_; rintro e w' ⟨rfl, hw⟩; rw [hw]; clear hw)
    go_ret
    exact ⟨rfl, Below.refl _ _⟩
  · have hu1 : 1 ≤ u := by omega
    have hnd20 : Lib.nDigits u ≤ 20 := by have := Lib.numDigits_eq u hu1 hu64; split at this <;> omega
    have hb3 : Lib.nDigits u ≤ 24 := by omega
    have hal : Tryz.prog.arrayLen 252 = 24 := by kernel_rfl
    have hsl1 : ∀ W, (Instr.sliceAt 252 (.pointer (some ⟨w.heap.size, 0, none⟩)) none (some (.int .i64 (Lib.nDigits u : Int))) none).run Tryz.prog W = .ok (.slice (some ⟨w.heap.size, 0, none⟩) (Lib.nDigits u) 24) W := fun W => by
      rw [run_sliceAt_array_h W 252 ⟨w.heap.size, 0, none⟩ (by kernel_rfl) .i64 (Lib.nDigits u : Int) (by omega) (by rw [hal]; omega)]
      go_simp
    have hH0 := Lib.holds_zero0 w 252 (Lib.nDigits u) (by omega)
    have hfmt := Tryz.internal_strconv_formatBase10 w.heap.size 0 24 u (Array.replicate (Lib.nDigits u) 0) (w.alloc (.cells Lib.zeros24 252)) hH0 (by rw [Array.size_replicate]; exact Lib.lt_pow_nDigits u) hu64 (by rw [Array.size_replicate]; omega)
    rw [Array.size_replicate] at hfmt
    have HH0 := Lib.hid hH0
    have HFM := Lib.hid hfmt
    clear hH0 hal hfmt
    go_enter Tryz.func305, Tryz.ntmps305
    go_wp2_with (go_at_call 270; refine (Tryz.internal_strconv_numDigits u hu1 hu64 _ (Lib.tabIs_alloc htab _)).mono ?_; rintro e w' ⟨rfl, hw⟩; rw [hw]; clear hw)
    go_at_call 271
    refine HFM.out.mono ?_
    rintro e w' ⟨rfl, k, v', dk, rfl, hF⟩
    have hcv : (convert 42 9 (.slice (some ⟨w.heap.size, 0, none⟩) (Lib.nDigits u) 24)).run Tryz.prog ((putRow (fun (b : UInt8) => Value.int .u8 (b.toNat : Int)) (w.alloc (.cells Lib.zeros24 252)) w.heap.size 0 dk).drewN k) = .ok (.string ⟨(Lib.decDigits u).toArray⟩) ((putRow (fun (b : UInt8) => Value.int .u8 (b.toNat : Int)) (w.alloc (.cells Lib.zeros24 252)) w.heap.size 0 dk).drewN k) := by
      have h := run_convert_bytes_back (P := Tryz.prog) ((putRow (fun (b : UInt8) => Value.int .u8 (b.toNat : Int)) (w.alloc (.cells Lib.zeros24 252)) w.heap.size 0 dk).drewN k) 42 9 5 ⟨w.heap.size, 0, none⟩ 24 (Lib.decDigits u) Tryz.underlying42 Tryz.underlying5 Tryz.underlying9 (fun j hj => by
        rw [Lib.row_is_numeral hF j hj, Lib.add_plain, World.cell?_drewN]
        exact cell?_putRow (fun (b : UInt8) => Value.int .u8 (b.toNat : Int)) _ w.heap.size 0 _ dk HH0.out (by rw [hF.size, Array.size_replicate]) j (by rw [hF.size]; rw [Lib.decDigits_length] at hj; exact hj))
      rw [Lib.decDigits_length] at h
      exact h
    have HF := Lib.hid hF
    clear hF
    go_wp2
    go_ret
    obtain ⟨os, eo⟩ := Lib.fin_at w (.cells Lib.zeros24 252) dk k 0
    refine ⟨rfl, ?_⟩
    rw [eo]
    exact Lib.below_grow _ _ (Nat.le_refl _) k os

set_option maxHeartbeats 1000000 in
theorem formatUint_any (w : World) (u : Nat) (hu64 : u < 18446744073709551616) (hg : Gl w) : Calls Tryz.prog 279 #[.int .u64 u, .int .i64 10] w (FmtPost (Lib.decDigits u) w) := by
  have H := Lib.hid (iformatUint_any w u hu64 hg)
  clear hg
  go_enter Tryz.func279, Tryz.ntmps279
  go_wp2_with fail
  refine H.out.mono ?_
  rintro e w1 ⟨rfl, hb⟩
  go_wp2
  go_ret
  exact ⟨rfl, hb⟩

end Go.Proofs.YtdbglgjphfkonaaGreatDoor

